import Derived.Test.YtmnaggdhkggjhaaGreatDoorM4
import Derived.Test.YtmnaggdhkggjhaaGreatDoorM1
import Derived.Test.YtmnaggdhkggjhaaGreatDoorProg
import Derived.KernelRfl
namespace Go.Proofs.YtmnaggdhkggjhaaGreatDoor.E
open Go
set_option maxRecDepth 100000

/-- shelfmark/shelfmarklaw17.OnceSaves -/
def S3 (a0 a1 : Value) (R : Value → World → Prop) (w : World) : Prop :=
  CallP Tryz.prog 4 #[] (fun v13 w =>
  LiftP Tryz.prog (Op.unary Go.UnOp.not v13) (fun v14 w =>
  CondP v14 (fun w =>
    R (Go.Value.bool false) w) (fun w =>
    CallP Tryz.prog 5 #[a0] (fun v16 w =>
  LiftP Tryz.prog (Op.unary Go.UnOp.not v16) (fun v17 w =>
  GuardP v17 false (fun K w => K a1 w) (fun v19 w =>
  GuardP v17 false (fun K w => NextP Tryz.prog (builtin Go.Builtin.len #[9] 3 #[false] #[v19]) K w) (fun v20 w =>
  GuardP v17 false (fun K w => LiftP Tryz.prog (binS Go.BinOp.gtr 3 (Go.Operand.tmp 20) (Go.Operand.const (Go.Value.int Go.IntKind.i64 3000)) v20 (Go.Value.int Go.IntKind.i64 3000)) K w) (fun v21 w =>
  PickP v17 (Go.Value.bool true) v21 (fun v22 w =>
  CondP v22 (fun w =>
    R (Go.Value.bool true) w) (fun w =>
    CallP Tryz.prog 6 #[] (fun v23 w =>
  CallP Tryz.prog 6 #[] (fun v24 w =>
  LiftP Tryz.prog (Instr.build 27 #[(0, v23), (1, v24)]) (fun v25 w =>
  LiftP Tryz.prog (Instr.alloc 27 true (.tuple #[])) (fun v5 w =>
  LiftU Tryz.prog (Instr.storeAt 27 v5 v25) (fun v_ w =>
  LiftP Tryz.prog (Instr.build 32 #[]) (fun v26 w =>
  LiftP Tryz.prog (Instr.box 32 v26) (fun v27 w =>
  LiftP Tryz.prog (Instr.build 32 #[]) (fun v28 w =>
  LiftP Tryz.prog (Instr.box 32 v28) (fun v29 w =>
  LiftP Tryz.prog (Instr.build 33 #[(0, v27), (1, v29)]) (fun v30 w =>
  LiftP Tryz.prog (Instr.alloc 33 true (.tuple #[])) (fun v6 w =>
  LiftU Tryz.prog (Instr.storeAt 33 v6 v30) (fun v__1 w =>
  LoopP (fun J vs w =>   -- [7]
    NextP Tryz.prog (builtin Go.Builtin.len #[22] 3 #[false] #[a0]) (fun v33 w =>
    LiftP Tryz.prog (binS Go.BinOp.lss 3 (Go.Operand.tmp 31) (Go.Operand.tmp 33) (vs.headD undef) v33) (fun v34 w =>
    CondP v34 (fun w =>
      LiftP Tryz.prog (Instr.indexAt 22 a0 (vs.headD undef)) (fun v39 w =>
    LiftP Tryz.prog (Instr.loadAt 41 v39) (fun v40 w =>
    LiftP Tryz.prog (Instr.alloc 41 true (.tuple #[])) (fun v8 w =>
    LiftU Tryz.prog (Instr.storeAt 41 v8 v40) (fun v__2 w =>
    DrawP (fun S w =>
    YieldP Tryz.prog S (Instr.fieldAt 41 v8 0) (fun v41 w =>
    YieldP Tryz.prog S (Instr.loadAt 3 v41) (fun v42 w =>
    YieldP Tryz.prog S (binS Go.BinOp.and 3 (Go.Operand.tmp 42) (Go.Operand.const (Go.Value.int Go.IntKind.i64 1)) v42 (Go.Value.int Go.IntKind.i64 1)) (fun v43 w =>
    YieldP Tryz.prog S (Instr.indexAt 27 v5 v43) (fun v44 w =>
    YieldP Tryz.prog S (Instr.loadAt 25 v44) (fun v45 w =>
    YieldP Tryz.prog S (Instr.fieldAt 41 v8 1) (fun v46 w =>
    YieldP Tryz.prog S (Instr.loadAt 3 v46) (fun v47 w =>
    YieldP Tryz.prog S (Instr.fieldAt 41 v8 2) (fun v48 w =>
    YieldP Tryz.prog S (Instr.loadAt 3 v48) (fun v49 w =>
    YieldP Tryz.prog S (Instr.fieldAt 41 v8 3) (fun v50 w =>
    YieldP Tryz.prog S (Instr.loadAt 39 v50) (fun v51 w =>
    CallP Tryz.prog 7 #[v45, v47, v49, v51] (fun v52 w =>
    DrawP (fun S w =>
    YieldP Tryz.prog S (Instr.fieldAt 41 v8 0) (fun v53 w =>
    YieldP Tryz.prog S (Instr.loadAt 3 v53) (fun v54 w =>
    YieldP Tryz.prog S (binS Go.BinOp.and 3 (Go.Operand.tmp 54) (Go.Operand.const (Go.Value.int Go.IntKind.i64 1)) v54 (Go.Value.int Go.IntKind.i64 1)) (fun v55 w =>
    YieldP Tryz.prog S (Instr.indexAt 33 v6 v55) (fun v56 w =>
    YieldP Tryz.prog S (Instr.loadAt 28 v56) (fun v57 w =>
    YieldP Tryz.prog S (Instr.fieldAt 41 v8 1) (fun v58 w =>
    YieldP Tryz.prog S (Instr.loadAt 3 v58) (fun v59 w =>
    YieldP Tryz.prog S (Instr.fieldAt 41 v8 2) (fun v60 w =>
    YieldP Tryz.prog S (Instr.loadAt 3 v60) (fun v61 w =>
    YieldP Tryz.prog S (Instr.fieldAt 41 v8 3) (fun v62 w =>
    YieldP Tryz.prog S (Instr.loadAt 39 v62) (fun v63 w =>
    CallP Tryz.prog 8 #[v57, v59, v61, v63] (fun v64 w =>
    LiftP Tryz.prog (binS Go.BinOp.add 3 (Go.Operand.tmp 35) (Go.Operand.const (Go.Value.int Go.IntKind.i64 1)) (vs.headD undef) (Go.Value.int Go.IntKind.i64 1)) (fun v36 w =>
    J [v36] w) w) w) w) w) w) w) w) w) w) w) w) w) w) w) w) w) w) w) w) w) w) w) w) w) w) w) w) w) w) w) w) (fun w =>
      LiftP Tryz.prog (Instr.indexAt 27 v5 (Go.Value.int Go.IntKind.i64 0)) (fun v66 w =>
  LiftP Tryz.prog (Instr.loadAt 25 v66) (fun v67 w =>
  CallP Tryz.prog 10 #[v67] (fun v68 w =>
  CallP Tryz.prog 9 #[v68] (fun v69 w =>
  LiftP Tryz.prog (Instr.extract v69 0) (fun v70 w =>
  LiftP Tryz.prog (Instr.extract v69 1) (fun v71 w =>
  DrawP (fun S w =>
  YieldP Tryz.prog S (binS Go.BinOp.neq 34 (Go.Operand.tmp 72) (Go.Operand.const (Go.Value.int Go.IntKind.i64 0)) v71 (Go.Value.int Go.IntKind.i64 0)) (fun v73 w =>
  GuardP v73 false (fun K w => K v70 w) (fun v75 w =>
  GuardP v73 false (fun K w => YieldP Tryz.prog S (Instr.indexAt 33 v6 (Go.Value.int Go.IntKind.i64 0)) K w) (fun v76 w =>
  GuardP v73 false (fun K w => YieldP Tryz.prog S (Instr.loadAt 28 v76) K w) (fun v77 w =>
  GuardP v73 false (fun K w => K a0 w) (fun v78 w =>
  GuardA v73 false S (fun K w => CallP Tryz.prog 11 #[v75, v77, v78] K w) (fun S v79 w =>
  GuardP v73 false (fun K w => YieldP Tryz.prog S (Op.unary Go.UnOp.not v79) K w) (fun v80 w =>
  PickP v73 (Go.Value.bool true) v80 (fun v81 w =>
  GuardP v81 false (fun K w => K v70 w) (fun v83 w =>
  GuardP v81 false (fun K w => YieldP Tryz.prog S (Instr.indexAt 27 v5 (Go.Value.int Go.IntKind.i64 0)) K w) (fun v85 w =>
  GuardP v81 false (fun K w => YieldP Tryz.prog S (Instr.loadAt 25 v85) K w) (fun v86 w =>
  GuardA v81 false S (fun K w => CallP Tryz.prog 10 #[v83] K w) (fun S v84 w =>
  GuardA v81 false S (fun K w => CallP Tryz.prog 10 #[v86] K w) (fun S v87 w =>
  GuardP v81 false (fun K w => YieldP Tryz.prog S (binS Go.BinOp.neq 9 (Go.Operand.tmp 84) (Go.Operand.tmp 87) v84 v87) K w) (fun v88 w =>
  PickP v81 (Go.Value.bool true) v88 (fun v89 w =>
  GuardP v89 false (fun K w => YieldP Tryz.prog S (Instr.indexAt 27 v5 (Go.Value.int Go.IntKind.i64 0)) K w) (fun v91 w =>
  GuardP v89 false (fun K w => YieldP Tryz.prog S (Instr.loadAt 25 v91) K w) (fun v92 w =>
  GuardP v89 false (fun K w => YieldP Tryz.prog S (Instr.indexAt 27 v5 (Go.Value.int Go.IntKind.i64 1)) K w) (fun v94 w =>
  GuardP v89 false (fun K w => YieldP Tryz.prog S (Instr.loadAt 25 v94) K w) (fun v95 w =>
  GuardP v89 false (fun K w => YieldP Tryz.prog S (Instr.indexAt 33 v6 (Go.Value.int Go.IntKind.i64 0)) K w) (fun v98 w =>
  GuardP v89 false (fun K w => YieldP Tryz.prog S (Instr.loadAt 28 v98) K w) (fun v99 w =>
  GuardP v89 false (fun K w => YieldP Tryz.prog S (Instr.indexAt 33 v6 (Go.Value.int Go.IntKind.i64 1)) K w) (fun v100 w =>
  GuardP v89 false (fun K w => YieldP Tryz.prog S (Instr.loadAt 28 v100) K w) (fun v101 w =>
  GuardA v89 false S (fun K w => CallP Tryz.prog 10 #[v92] K w) (fun S v93 w =>
  GuardA v89 false S (fun K w => CallP Tryz.prog 10 #[v95] K w) (fun S v96 w =>
  GuardP v89 false (fun K w => YieldP Tryz.prog S (binS Go.BinOp.eql 9 (Go.Operand.tmp 93) (Go.Operand.tmp 96) v93 v96) K w) (fun v97 w =>
  GuardA v89 false S (fun K w => CallP Tryz.prog 12 #[v99, v101] K w) (fun S v102 w =>
  GuardP v89 false (fun K w => YieldP Tryz.prog S (binS Go.BinOp.neq 4 (Go.Operand.tmp 97) (Go.Operand.tmp 102) v97 v102) K w) (fun v103 w =>
  PickP v89 (Go.Value.bool true) v103 (fun v104 w =>
  CondP v104 (fun w =>
    R (Go.Value.bool false) w) (fun w =>
    CallP Tryz.prog 9 #[a1] (fun v107 w =>
  LiftP Tryz.prog (Instr.extract v107 0) (fun v108 w =>
  LiftP Tryz.prog (Instr.extract v107 1) (fun v109 w =>
  LiftP Tryz.prog (binS Go.BinOp.neq 34 (Go.Operand.tmp 110) (Go.Operand.const (Go.Value.int Go.IntKind.i64 0)) v109 (Go.Value.int Go.IntKind.i64 0)) (fun v111 w =>
  CondP v111 (fun w =>
    LiftP Tryz.prog (binS Go.BinOp.eql 25 (Go.Operand.tmp 112) (Go.Operand.const (Go.Value.pointer none)) v108 (Go.Value.pointer none)) (fun v113 w =>
    GuardP v113 true (fun K w => K v109 w) (fun v115 w =>
    GuardP v113 true (fun K w => LiftP Tryz.prog (binS Go.BinOp.eql 34 (Go.Operand.tmp 115) (Go.Operand.const (Go.Value.int Go.IntKind.i64 3)) v115 (Go.Value.int Go.IntKind.i64 3)) K w) (fun v116 w =>
    PickP v113 v116 (Go.Value.bool false) (fun v117 w =>
    R v117 w) w) w) w) w) (fun w =>
    LiftP Tryz.prog (binS Go.BinOp.neq 25 (Go.Operand.tmp 118) (Go.Operand.const (Go.Value.pointer none)) v108 (Go.Value.pointer none)) (fun v119 w =>
  GuardP v119 true (fun K w => K v108 w) (fun v121 w =>
  GuardP v119 true (fun K w => CallP Tryz.prog 10 #[v121] K w) (fun v122 w =>
  GuardP v119 true (fun K w => K a1 w) (fun v123 w =>
  GuardP v119 true (fun K w => LiftP Tryz.prog (binS Go.BinOp.eql 9 (Go.Operand.tmp 122) (Go.Operand.tmp 123) v122 v123) K w) (fun v124 w =>
  PickP v119 v124 (Go.Value.bool false) (fun v125 w =>
  R v125 w) w) w) w) w) w) w) w) w) w) w) w) w) w) w) w) w) w) w) w) w) w) w) w) w) w) w) w) w) w) w) w) w) w) w) w) w) w) w) w) w) w) w) w) w) w) w) w) w) w) w) w) [(Go.Value.int Go.IntKind.i64 0)] w) w) w) w) w) w) w) w) w) w) w) w) w) w) w) w) w) w) w) w) w) w) w
theorem S3.calls (a0 a1 : Value) (R : Value → World → Prop) (w : World) (h : S3 a0 a1 R w) : Calls Tryz.prog 3 #[a0, a1] w fun e w' => ∃ v, e = .returned v ∧ R v w' :=
  calls_of_tr (n := 126) (c := bodyOf Tryz.f3) (.two .leaf (.two (.two .leaf (.two (.two .leaf .leaf) .leaf)) (.two (.two .leaf (.two (.two .leaf .leaf) .leaf)) (.two .leaf (.two .leaf (.two (.two .leaf (.one (.loop [7] (.two (.two .leaf (.two .leaf .leaf)) (.two (.one (.two .leaf (.two (.drawL [(true, 0), (true, 1), (true, 2), (true, 3), (true, 4), (true, 5), (true, 6), (true, 7), (true, 8), (true, 9), (true, 10)] 11) (.drawL [(true, 0), (true, 1), (true, 2), (true, 3), (true, 4), (true, 5), (true, 6), (true, 7), (true, 8), (true, 9), (true, 10)] 11)))) .leaf))))) (.two .leaf (.two (.two (.draw [(true, 0), (true, 1), (true, 2), (true, 3), (true, 4), (true, 5), (true, 6), (false, 7), (true, 8), (true, 9), (true, 10), (true, 11), (true, 13), (true, 14), (false, 12), (false, 15), (true, 16), (true, 17), (true, 18), (true, 19), (true, 20), (true, 22), (true, 23), (true, 26), (true, 27), (true, 28), (true, 29), (false, 21), (false, 24), (true, 25), (false, 30), (true, 31), (true, 32)]) (.two (.two .leaf .leaf) .leaf)) (.two .leaf (.two (.two .leaf (.two (.two .leaf .leaf) .leaf)) (.two .leaf .leaf))))))))))) Tryz.func3 (by kernel_rfl) Tryz.ntmps3 (by kernel_rfl) (by kernel_rfl) [a0, a1] (by kernel_rfl) (of_eq_ (by kernel_rfl) h)

/-- shelfmark/shelfmarklaw17.awake -/
def S4 (R : Value → World → Prop) (w : World) : Prop :=
  CallP Tryz.prog 6 #[] (fun v9 w =>
  LiftP Tryz.prog (binS Go.BinOp.eql 25 (Go.Operand.tmp 10) (Go.Operand.const (Go.Value.pointer none)) v9 (Go.Value.pointer none)) (fun v11 w =>
  GuardP v11 false (fun K w => K v9 w) (fun v13 w =>
  GuardP v11 false (fun K w => LiftP Tryz.prog (Instr.build 39 #[(1, (Go.Value.bool true))]) K w) (fun v14 w =>
  GuardP v11 false (fun K w => CallP Tryz.prog 7 #[v13, (Go.Value.int Go.IntKind.i64 1), (Go.Value.int Go.IntKind.i64 5), v14] K w) (fun v15 w =>
  GuardP v11 false (fun K w => LiftP Tryz.prog (binS Go.BinOp.neq 34 (Go.Operand.tmp 15) (Go.Operand.const (Go.Value.int Go.IntKind.i64 0)) v15 (Go.Value.int Go.IntKind.i64 0)) K w) (fun v16 w =>
  PickP v11 (Go.Value.bool true) v16 (fun v17 w =>
  CondP v17 (fun w =>
    R (Go.Value.bool false) w) (fun w =>
    CallP Tryz.prog 13 #[v9, (Go.Value.int Go.IntKind.i64 1), (Go.Value.int Go.IntKind.i64 5)] (fun v20 w =>
  LiftP Tryz.prog (Instr.extract v20 0) (fun v21 w =>
  LiftP Tryz.prog (Instr.extract v20 1) (fun v22 w =>
  LiftP Tryz.prog (Instr.alloc 39 true (.tuple #[])) (fun v2 w =>
  LiftU Tryz.prog (Instr.storeAt 39 v2 v21) (fun v_ w =>
  CallP Tryz.prog 13 #[v9, (Go.Value.int Go.IntKind.i64 1), (Go.Value.int Go.IntKind.i64 4)] (fun v25 w =>
  LiftP Tryz.prog (Instr.extract v25 0) (fun v26 w =>
  LiftP Tryz.prog (Instr.extract v25 1) (fun v27 w =>
  LiftP Tryz.prog (Instr.alloc 39 true (.tuple #[])) (fun v4 w =>
  LiftU Tryz.prog (Instr.storeAt 39 v4 v26) (fun v__1 w =>
  LoopP (fun J vs w =>   -- [6]
    LiftP Tryz.prog (binS Go.BinOp.lss 3 (Go.Operand.tmp 28) (Go.Operand.const (Go.Value.int Go.IntKind.i64 10)) (vs.headD undef) (Go.Value.int Go.IntKind.i64 10)) (fun v29 w =>
    CondP v29 (fun w =>
      LiftP Tryz.prog (Instr.build 39 #[]) (fun v34 w =>
    CallP Tryz.prog 7 #[v9, (Go.Value.int Go.IntKind.i64 1), (vs.headD undef), v34] (fun v35 w =>
    LiftP Tryz.prog (binS Go.BinOp.add 3 (Go.Operand.tmp 30) (Go.Operand.const (Go.Value.int Go.IntKind.i64 1)) (vs.headD undef) (Go.Value.int Go.IntKind.i64 1)) (fun v31 w =>
    J [v31] w) w) w) w) (fun w =>
      CallP Tryz.prog 13 #[v9, (Go.Value.int Go.IntKind.i64 1), (Go.Value.int Go.IntKind.i64 4)] (fun v38 w =>
  LiftP Tryz.prog (Instr.extract v38 0) (fun v39 w =>
  LiftP Tryz.prog (Instr.extract v38 1) (fun v40 w =>
  LiftP Tryz.prog (Instr.alloc 39 true (.tuple #[])) (fun v7 w =>
  LiftU Tryz.prog (Instr.storeAt 39 v7 v39) (fun v__2 w =>
  LiftP Tryz.prog (binS Go.BinOp.eql 34 (Go.Operand.tmp 41) (Go.Operand.const (Go.Value.int Go.IntKind.i64 0)) v22 (Go.Value.int Go.IntKind.i64 0)) (fun v42 w =>
  GuardP v42 true (fun K w => LiftP Tryz.prog (Instr.fieldAt 39 v2 1) K w) (fun v44 w =>
  GuardP v42 true (fun K w => LiftP Tryz.prog (Instr.loadAt 4 v44) K w) (fun v45 w =>
  PickP v42 v45 (Go.Value.bool false) (fun v46 w =>
  GuardP v46 true (fun K w => K v27 w) (fun v48 w =>
  GuardP v46 true (fun K w => LiftP Tryz.prog (binS Go.BinOp.eql 34 (Go.Operand.tmp 48) (Go.Operand.const (Go.Value.int Go.IntKind.i64 7)) v48 (Go.Value.int Go.IntKind.i64 7)) K w) (fun v49 w =>
  PickP v46 v49 (Go.Value.bool false) (fun v50 w =>
  GuardP v50 true (fun K w => K v40 w) (fun v52 w =>
  GuardP v50 true (fun K w => LiftP Tryz.prog (binS Go.BinOp.eql 34 (Go.Operand.tmp 52) (Go.Operand.const (Go.Value.int Go.IntKind.i64 12)) v52 (Go.Value.int Go.IntKind.i64 12)) K w) (fun v53 w =>
  PickP v50 v53 (Go.Value.bool false) (fun v54 w =>
  GuardP v54 true (fun K w => K v9 w) (fun v56 w =>
  GuardP v54 true (fun K w => CallP Tryz.prog 14 #[v56, (Go.Value.int Go.IntKind.i64 1)] K w) (fun v57 w =>
  GuardP v54 true (fun K w => LiftP Tryz.prog (binS Go.BinOp.eql 3 (Go.Operand.tmp 57) (Go.Operand.const (Go.Value.int Go.IntKind.i64 5)) v57 (Go.Value.int Go.IntKind.i64 5)) K w) (fun v58 w =>
  PickP v54 v58 (Go.Value.bool false) (fun v59 w =>
  R v59 w) w) w) w) w) w) w) w) w) w) w) w) w) w) w) w) w) w) w) w) w) w) [(Go.Value.int Go.IntKind.i64 6)] w) w) w) w) w) w) w) w) w) w) w) w) w) w) w) w) w) w) w
theorem S4.calls (R : Value → World → Prop) (w : World) (h : S4 R w) : Calls Tryz.prog 4 #[] w fun e w' => ∃ v, e = .returned v ∧ R v w' :=
  calls_of_tr (n := 60) (c := bodyOf Tryz.f4) (.two .leaf (.two .leaf (.two (.two .leaf (.two (.two .leaf .leaf) .leaf)) (.two .leaf (.two .leaf (.two (.two .leaf (.one (.loop [6] (.two (.two .leaf (.two .leaf .leaf)) (.two (.one .leaf) .leaf))))) (.two .leaf (.two .leaf .leaf)))))))) Tryz.func4 (by kernel_rfl) Tryz.ntmps4 (by kernel_rfl) (by kernel_rfl) [] (by kernel_rfl) (of_eq_ (by kernel_rfl) h)

/-- shelfmark/shelfmarklaw17.light -/
def S5 (a0 : Value) (R : Value → World → Prop) (w : World) : Prop :=
  LoopP (fun J vs w =>   -- [3]
    NextP Tryz.prog (builtin Go.Builtin.len #[22] 3 #[false] #[a0]) (fun v6 w =>
    LiftP Tryz.prog (binS Go.BinOp.lss 3 (Go.Operand.tmp 4) (Go.Operand.tmp 6) (vs.headD undef) v6) (fun v7 w =>
    GuardP v7 true (fun K w => K (vs.headD undef) w) (fun v9 w =>
    GuardP v7 true (fun K w => LiftP Tryz.prog (binS Go.BinOp.lss 3 (Go.Operand.tmp 9) (Go.Operand.const (Go.Value.int Go.IntKind.i64 100)) v9 (Go.Value.int Go.IntKind.i64 100)) K w) (fun v10 w =>
    PickP v7 v10 (Go.Value.bool false) (fun v11 w =>
    CondP v11 (fun w =>
      LiftP Tryz.prog (Instr.indexAt 22 a0 (vs.headD undef)) (fun v16 w =>
    LiftP Tryz.prog (Instr.fieldAt 41 v16 3) (fun v17 w =>
    LiftP Tryz.prog (Instr.fieldAt 39 v17 2) (fun v18 w =>
    LiftP Tryz.prog (Instr.loadAt 36 v18) (fun v19 w =>
    CallP Tryz.prog 15 #[v19, (Go.Value.int Go.IntKind.i64 300)] (fun v20 w =>
    LiftP Tryz.prog (Op.unary Go.UnOp.not v20) (fun v21 w =>
    GuardP v21 false (fun K w => K a0 w) (fun v23 w =>
    GuardP v21 false (fun K w => K (vs.headD undef) w) (fun v24 w =>
    GuardP v21 false (fun K w => LiftP Tryz.prog (Instr.indexAt 22 v23 v24) K w) (fun v25 w =>
    GuardP v21 false (fun K w => LiftP Tryz.prog (Instr.fieldAt 41 v25 3) K w) (fun v26 w =>
    GuardP v21 false (fun K w => LiftP Tryz.prog (Instr.fieldAt 39 v26 3) K w) (fun v27 w =>
    GuardP v21 false (fun K w => LiftP Tryz.prog (Instr.loadAt 37 v27) K w) (fun v28 w =>
    GuardP v21 false (fun K w => NextP Tryz.prog (builtin Go.Builtin.len #[37] 3 #[false] #[v28]) K w) (fun v29 w =>
    GuardP v21 false (fun K w => LiftP Tryz.prog (binS Go.BinOp.gtr 3 (Go.Operand.tmp 29) (Go.Operand.const (Go.Value.int Go.IntKind.i64 10)) v29 (Go.Value.int Go.IntKind.i64 10)) K w) (fun v30 w =>
    PickP v21 (Go.Value.bool true) v30 (fun v31 w =>
    CondP v31 (fun w =>
      R (Go.Value.bool false) w) (fun w =>
      LiftP Tryz.prog (binS Go.BinOp.add 3 (Go.Operand.tmp 12) (Go.Operand.const (Go.Value.int Go.IntKind.i64 1)) (vs.headD undef) (Go.Value.int Go.IntKind.i64 1)) (fun v13 w =>
    J [v13] w) w) w) w) w) w) w) w) w) w) w) w) w) w) w) w) w) w) (fun w =>
      NextP Tryz.prog (builtin Go.Builtin.len #[22] 3 #[false] #[a0]) (fun v33 w =>
  LiftP Tryz.prog (binS Go.BinOp.lss 3 (Go.Operand.tmp 33) (Go.Operand.const (Go.Value.int Go.IntKind.i64 100)) v33 (Go.Value.int Go.IntKind.i64 100)) (fun v34 w =>
  R v34 w) w) w) w) w) w) w) w) w) [(Go.Value.int Go.IntKind.i64 0)] w
theorem S5.calls (a0 : Value) (R : Value → World → Prop) (w : World) (h : S5 a0 R w) : Calls Tryz.prog 5 #[a0] w fun e w' => ∃ v, e = .returned v ∧ R v w' :=
  calls_of_tr (n := 35) (c := bodyOf Tryz.f5) (.two .leaf (.two (.two .leaf (.one (.loop [3] (.two (.two .leaf (.two .leaf .leaf)) (.two (.one (.two .leaf (.two (.two .leaf .leaf) .leaf))) .leaf))))) (.two .leaf .leaf))) Tryz.func5 (by kernel_rfl) Tryz.ntmps5 (by kernel_rfl) (by kernel_rfl) [a0] (by kernel_rfl) (of_eq_ (by kernel_rfl) h)

/-- shelfmark/once.New -/
def S6 (R : Value → World → Prop) (w : World) : Prop :=
  LiftP Tryz.prog (Instr.makeMap 53 none) (fun v1 w =>
  LiftP Tryz.prog (Instr.build 55 #[(0, v1)]) (fun v2 w =>
  LiftP Tryz.prog (Instr.box 55 v2) (fun v3 w =>
  R v3 w) w) w) w
theorem S6.calls (R : Value → World → Prop) (w : World) (h : S6 R w) : Calls Tryz.prog 6 #[] w fun e w' => ∃ v, e = .returned v ∧ R v w' :=
  calls_of_tr (n := 4) (c := bodyOf Tryz.f6) (.two .leaf (.two .leaf .leaf)) Tryz.func6 (by kernel_rfl) Tryz.ntmps6 (by kernel_rfl) (by kernel_rfl) [] (by kernel_rfl) (of_eq_ (by kernel_rfl) h)

/-- (*shelfmark/once.Table).Keep -/
def S7 (a0 a1 a2 a3 : Value) (R : Value → World → Prop) (w : World) : Prop :=
  LiftP Tryz.prog (Instr.box 39 a3) (fun v7 w =>
  CallP Tryz.prog 13 #[a0, a1, a2] (fun v16 w =>
  LiftP Tryz.prog (Instr.extract v16 0) (fun v17 w =>
  LiftP Tryz.prog (Instr.extract v16 1) (fun v18 w =>
  LiftP Tryz.prog (Instr.alloc 39 true (.tuple #[])) (fun v9 w =>
  LiftU Tryz.prog (Instr.storeAt 39 v9 v17) (fun v_ w =>
  JoinP (fun J w =>
    LiftP Tryz.prog (binS Go.BinOp.eql 34 (Go.Operand.tmp 20) (Go.Operand.const (Go.Value.int Go.IntKind.i64 1)) v18 (Go.Value.int Go.IntKind.i64 1)) (fun v21 w =>
    CondP v21 (fun w =>
      J [v21] w) (fun w =>
      LiftP Tryz.prog (Instr.fieldAt 39 v7 3) (fun v22 w =>
      LiftP Tryz.prog (Instr.loadAt 37 v22) (fun v23 w =>
      NextP Tryz.prog (builtin Go.Builtin.len #[37] 3 #[false] #[v23]) (fun v24 w =>
      LiftP Tryz.prog (binS Go.BinOp.gtr 3 (Go.Operand.tmp 24) (Go.Operand.const (Go.Value.int Go.IntKind.i64 0)) v24 (Go.Value.int Go.IntKind.i64 0)) (fun v25 w =>
      CondP v25 (fun w =>
        J [v25] w) (fun w =>
        LiftP Tryz.prog (Instr.fieldAt 39 v7 0) (fun v26 w =>
        LiftP Tryz.prog (Instr.loadAt 34 v26) (fun v27 w =>
        CallP Tryz.prog 16 #[v27, (Go.Value.int Go.IntKind.i64 0)] (fun v28 w =>
        LiftP Tryz.prog (Op.unary Go.UnOp.not v28) (fun v29 w =>
        CondP v29 (fun w =>
          J [v29] w) (fun w =>
          LiftP Tryz.prog (Instr.fieldAt 39 v7 4) (fun v30 w =>
          LiftP Tryz.prog (Instr.loadAt 3 v30) (fun v31 w =>
          CallP Tryz.prog 16 #[v31, (Go.Value.int Go.IntKind.i64 0)] (fun v32 w =>
          LiftP Tryz.prog (Op.unary Go.UnOp.not v32) (fun v33 w =>
          CondP v33 (fun w =>
            J [v33] w) (fun w =>
            LiftP Tryz.prog (Instr.fieldAt 39 v7 2) (fun v34 w =>
            LiftP Tryz.prog (Instr.loadAt 36 v34) (fun v35 w =>
            NextP Tryz.prog (builtin Go.Builtin.len #[36] 3 #[false] #[v35]) (fun v36 w =>
            LiftP Tryz.prog (binS Go.BinOp.gtr 3 (Go.Operand.tmp 36) (Go.Operand.const (Go.Value.int Go.IntKind.i64 0)) v36 (Go.Value.int Go.IntKind.i64 0)) (fun v37 w =>
            GuardP v37 true (fun K w => LiftP Tryz.prog (Instr.fieldAt 39 v7 2) K w) (fun v39 w =>
            GuardP v37 true (fun K w => LiftP Tryz.prog (Instr.loadAt 36 v39) K w) (fun v40 w =>
            GuardP v37 true (fun K w => CallP Tryz.prog 17 #[v40] K w) (fun v41 w =>
            GuardP v37 true (fun K w => LiftP Tryz.prog (binS Go.BinOp.neq 34 (Go.Operand.tmp 41) (Go.Operand.const (Go.Value.int Go.IntKind.i64 0)) v41 (Go.Value.int Go.IntKind.i64 0)) K w) (fun v42 w =>
            PickP v37 v42 (Go.Value.bool false) (fun v43 w =>
            J [v43] w) w) w) w) w) w) w) w) w) w) w) w) w) w) w) w) w) w) w) w) w) w) w) w) w) w) w) (fun vs w =>   -- [19]
  CondP (vs.headD undef) (fun w =>
    R (Go.Value.int Go.IntKind.i64 1) w) (fun w =>
    LiftP Tryz.prog (binS Go.BinOp.eql 34 (Go.Operand.tmp 45) (Go.Operand.const (Go.Value.int Go.IntKind.i64 12)) v18 (Go.Value.int Go.IntKind.i64 12)) (fun v46 w =>
    CondP v46 (fun w =>
      R v18 w) (fun w =>
      LiftP Tryz.prog (binS Go.BinOp.eql 34 (Go.Operand.tmp 49) (Go.Operand.const (Go.Value.int Go.IntKind.i64 0)) v18 (Go.Value.int Go.IntKind.i64 0)) (fun v50 w =>
      CondP v50 (fun w =>
        R (Go.Value.int Go.IntKind.i64 8) w) (fun w =>
        CallP Tryz.prog 18 #[a0, a1] (fun v53 w =>
  DrawP (fun S w =>
  YieldN Tryz.prog S (nilChk v53) (fun v55 w =>
  YieldP Tryz.prog S (Instr.fieldAt 63 v55 1) (fun v56 w =>
  YieldP Tryz.prog S (Instr.loadAt 61 v56) (fun v57 w =>
  YieldP Tryz.prog S (Instr.loadAt 39 v7) (fun v59 w =>
  ActP S (fun K w => CallP Tryz.prog 19 #[v59] K w) (fun S v60 w =>
  LiftU Tryz.prog (Instr.mapUpdate 61 v57 a2 v60) (fun v__1 w =>
  CallP Tryz.prog 20 #[v53] (fun v62 w =>
  R (Go.Value.int Go.IntKind.i64 0) w) w) w) w) w) w) w) w) w) w) w) w) w) w) w) w) w) w) w) w) w) w
theorem S7.calls (a0 a1 a2 a3 : Value) (R : Value → World → Prop) (w : World) (h : S7 a0 a1 a2 a3 R w) : Calls Tryz.prog 7 #[a0, a1, a2, a3] w fun e w' => ∃ v, e = .returned v ∧ R v w' :=
  calls_of_tr (n := 63) (c := bodyOf Tryz.f7) (.two .leaf (.two .leaf (.two (.one (.join [19] (.two .leaf (.two .leaf (.two .leaf (.two .leaf (.two .leaf (.two .leaf (.two .leaf (.two .leaf .leaf)))))))) (.two (.two .leaf .leaf) (.two .leaf (.two (.two .leaf .leaf) (.two .leaf (.two (.two .leaf .leaf) .leaf))))))) (.two .leaf (.two (.drawL [(true, 0), (true, 1), (true, 2), (true, 3), (true, 4), (true, 5), (false, 6)] 7) (.two .leaf (.two .leaf .leaf))))))) Tryz.func7 (by kernel_rfl) Tryz.ntmps7 (by kernel_rfl) (by kernel_rfl) [a0, a1, a2, a3] (by kernel_rfl) (of_eq_ (by kernel_rfl) h)

/-- (*shelfmark/shelfmarkref17.Table).Keep -/
def S8 (a0 a1 a2 a3 : Value) (R : Value → World → Prop) (w : World) : Prop :=
  LiftP Tryz.prog (Instr.box 39 a3) (fun v7 w =>
  CallP Tryz.prog 21 #[a1, a2] (fun v14 w =>
  GuardP v14 false (fun K w => LiftP Tryz.prog (Instr.fieldAt 39 v7 3) K w) (fun v16 w =>
  GuardP v14 false (fun K w => LiftP Tryz.prog (Instr.loadAt 37 v16) K w) (fun v17 w =>
  GuardP v14 false (fun K w => NextP Tryz.prog (builtin Go.Builtin.len #[37] 3 #[false] #[v17]) K w) (fun v18 w =>
  GuardP v14 false (fun K w => LiftP Tryz.prog (binS Go.BinOp.gtr 3 (Go.Operand.tmp 18) (Go.Operand.const (Go.Value.int Go.IntKind.i64 0)) v18 (Go.Value.int Go.IntKind.i64 0)) K w) (fun v19 w =>
  PickP v14 (Go.Value.bool true) v19 (fun v20 w =>
  GuardP v20 false (fun K w => LiftP Tryz.prog (Instr.fieldAt 39 v7 0) K w) (fun v22 w =>
  GuardP v20 false (fun K w => LiftP Tryz.prog (Instr.loadAt 34 v22) K w) (fun v23 w =>
  GuardP v20 false (fun K w => LiftP Tryz.prog (binS Go.BinOp.lss 34 (Go.Operand.tmp 23) (Go.Operand.const (Go.Value.int Go.IntKind.i64 0)) v23 (Go.Value.int Go.IntKind.i64 0)) K w) (fun v24 w =>
  PickP v20 (Go.Value.bool true) v24 (fun v25 w =>
  GuardP v25 false (fun K w => LiftP Tryz.prog (Instr.fieldAt 39 v7 0) K w) (fun v27 w =>
  GuardP v25 false (fun K w => LiftP Tryz.prog (Instr.loadAt 34 v27) K w) (fun v28 w =>
  GuardP v25 false (fun K w => LiftP Tryz.prog (binS Go.BinOp.gtr 34 (Go.Operand.tmp 28) (Go.Operand.const (Go.Value.int Go.IntKind.i64 1099511627776)) v28 (Go.Value.int Go.IntKind.i64 1099511627776)) K w) (fun v29 w =>
  PickP v25 (Go.Value.bool true) v29 (fun v30 w =>
  GuardP v30 false (fun K w => LiftP Tryz.prog (Instr.fieldAt 39 v7 4) K w) (fun v32 w =>
  GuardP v30 false (fun K w => LiftP Tryz.prog (Instr.loadAt 3 v32) K w) (fun v33 w =>
  GuardP v30 false (fun K w => LiftP Tryz.prog (binS Go.BinOp.lss 3 (Go.Operand.tmp 33) (Go.Operand.const (Go.Value.int Go.IntKind.i64 0)) v33 (Go.Value.int Go.IntKind.i64 0)) K w) (fun v34 w =>
  PickP v30 (Go.Value.bool true) v34 (fun v35 w =>
  GuardP v35 false (fun K w => LiftP Tryz.prog (Instr.fieldAt 39 v7 4) K w) (fun v37 w =>
  GuardP v35 false (fun K w => LiftP Tryz.prog (Instr.loadAt 3 v37) K w) (fun v38 w =>
  GuardP v35 false (fun K w => LiftP Tryz.prog (binS Go.BinOp.gtr 3 (Go.Operand.tmp 38) (Go.Operand.const (Go.Value.int Go.IntKind.i64 1099511627776)) v38 (Go.Value.int Go.IntKind.i64 1099511627776)) K w) (fun v39 w =>
  PickP v35 (Go.Value.bool true) v39 (fun v40 w =>
  GuardP v40 false (fun K w => LiftP Tryz.prog (Instr.fieldAt 39 v7 2) K w) (fun v42 w =>
  GuardP v40 false (fun K w => LiftP Tryz.prog (Instr.loadAt 36 v42) K w) (fun v43 w =>
  GuardP v40 false (fun K w => NextP Tryz.prog (builtin Go.Builtin.len #[36] 3 #[false] #[v43]) K w) (fun v44 w =>
  GuardP v40 false (fun K w => LiftP Tryz.prog (binS Go.BinOp.gtr 3 (Go.Operand.tmp 44) (Go.Operand.const (Go.Value.int Go.IntKind.i64 0)) v44 (Go.Value.int Go.IntKind.i64 0)) K w) (fun v45 w =>
  GuardP v40 false (fun K w => K v45 w) (fun v46 w =>
  GuardP v46 true (fun K w => LiftP Tryz.prog (Instr.fieldAt 39 v7 2) K w) (fun v47 w =>
  GuardP v46 true (fun K w => LiftP Tryz.prog (Instr.loadAt 36 v47) K w) (fun v48 w =>
  GuardP v46 true (fun K w => CallP Tryz.prog 22 #[v48] K w) (fun v49 w =>
  GuardP v46 true (fun K w => LiftP Tryz.prog (binS Go.BinOp.neq 34 (Go.Operand.tmp 49) (Go.Operand.const (Go.Value.int Go.IntKind.i64 0)) v49 (Go.Value.int Go.IntKind.i64 0)) K w) (fun v50 w =>
  GuardP v40 false (fun K w => PickP v46 v50 (Go.Value.bool false) K w) (fun v51 w =>
  PickP v40 (Go.Value.bool true) v51 (fun v52 w =>
  CondP v52 (fun w =>
    R (Go.Value.int Go.IntKind.i64 1) w) (fun w =>
    CallP Tryz.prog 23 #[a0, a1, a2] (fun v57 w =>
  LiftP Tryz.prog (Instr.extract v57 0) (fun v58 w =>
  LiftP Tryz.prog (Instr.extract v57 1) (fun v59 w =>
  LiftP Tryz.prog (Instr.alloc 39 true (.tuple #[])) (fun v9 w =>
  LiftU Tryz.prog (Instr.storeAt 39 v9 v58) (fun v_ w =>
  LiftP Tryz.prog (binS Go.BinOp.eql 34 (Go.Operand.tmp 60) (Go.Operand.const (Go.Value.int Go.IntKind.i64 0)) v59 (Go.Value.int Go.IntKind.i64 0)) (fun v61 w =>
  CondP v61 (fun w =>
    R (Go.Value.int Go.IntKind.i64 8) w) (fun w =>
    LiftP Tryz.prog (binS Go.BinOp.eql 34 (Go.Operand.tmp 62) (Go.Operand.const (Go.Value.int Go.IntKind.i64 12)) v59 (Go.Value.int Go.IntKind.i64 12)) (fun v63 w =>
  CondP v63 (fun w =>
    R (Go.Value.int Go.IntKind.i64 12) w) (fun w =>
    LiftP Tryz.prog (Instr.fieldAt 39 v7 2) (fun v65 w =>
  LiftP Tryz.prog (Instr.loadAt 36 v65) (fun v66 w =>
  NextP Tryz.prog (builtin Go.Builtin.append #[36, 36] 36 #[false, false] #[(Go.Value.slice none 0 0), v66]) (fun v67 w =>
  LiftP Tryz.prog (Instr.fieldAt 39 v7 2) (fun v68 w =>
  LiftU Tryz.prog (Instr.storeAt 36 v68 v67) (fun v__1 w =>
  LiftP Tryz.prog (Instr.loadAt 39 v7) (fun v72 w =>
  LiftP Tryz.prog (Instr.build 67 #[(0, a1), (1, a2), (2, v72)]) (fun v73 w =>
  CallP Tryz.prog 24 #[a0, v73] (fun v74 w =>
  R (Go.Value.int Go.IntKind.i64 0) w) w) w) w) w) w) w) w) w) w) w) w) w) w) w) w) w) w) w) w) w) w) w) w) w) w) w) w) w) w) w) w) w) w) w) w) w) w) w) w) w) w) w) w) w) w) w) w) w) w) w) w) w
theorem S8.calls (a0 a1 a2 a3 : Value) (R : Value → World → Prop) (w : World) (h : S8 a0 a1 a2 a3 R w) : Calls Tryz.prog 8 #[a0, a1, a2, a3] w fun e w' => ∃ v, e = .returned v ∧ R v w' :=
  calls_of_tr (n := 75) (c := bodyOf Tryz.f8) (.two .leaf (.two (.two .leaf (.two (.two .leaf .leaf) .leaf)) (.two .leaf (.two (.two .leaf (.two (.two .leaf .leaf) .leaf)) (.two (.two .leaf (.two (.two .leaf .leaf) .leaf)) (.two .leaf (.two .leaf (.two .leaf (.two .leaf .leaf))))))))) Tryz.func8 (by kernel_rfl) Tryz.ntmps8 (by kernel_rfl) (by kernel_rfl) [a0, a1, a2, a3] (by kernel_rfl) (of_eq_ (by kernel_rfl) h)

/-- shelfmark/once.Load -/
def S9 (a0 : Value) (R : Value → World → Prop) (w : World) : Prop :=
  LiftP Tryz.prog (convert 9 69 a0) (fun v16 w =>
  LiftP Tryz.prog (Instr.build 71 #[(0, v16)]) (fun v17 w =>
  LiftP Tryz.prog (Instr.box 71 v17) (fun v18 w =>
  CallP Tryz.prog 6 #[] (fun v19 w =>
  NextP Tryz.prog (builtin Go.Builtin.len #[9] 3 #[false] #[a0]) (fun v22 w =>
  CallP Tryz.prog 25 #[v18, v22] (fun v23 w =>
  LoopP (fun J vs w =>   -- [6]
    LiftP Tryz.prog (binS Go.BinOp.gtr 3 (Go.Operand.tmp 24) (Go.Operand.const (Go.Value.int Go.IntKind.i64 0)) (vs.headD undef) (Go.Value.int Go.IntKind.i64 0)) (fun v25 w =>
    GuardP v25 true (fun K w => K v18 w) (fun v27 w =>
    GuardP v25 true (fun K w => NextP Tryz.prog (nilChk v27) K w) (fun v28 w =>
    GuardP v25 true (fun K w => LiftP Tryz.prog (Instr.fieldAt 71 v28 2) K w) (fun v29 w =>
    GuardP v25 true (fun K w => LiftP Tryz.prog (Instr.loadAt 4 v29) K w) (fun v30 w =>
    GuardP v25 true (fun K w => LiftP Tryz.prog (Op.unary Go.UnOp.not v30) K w) (fun v31 w =>
    PickP v25 v31 (Go.Value.bool false) (fun v32 w =>
    CondP v32 (fun w =>
      CallP Tryz.prog 25 #[v18, (Go.Value.int Go.IntKind.i64 1099511627776)] (fun v36 w =>
    CallP Tryz.prog 25 #[v18, (Go.Value.int Go.IntKind.i64 1099511627776)] (fun v38 w =>
    CallP Tryz.prog 18 #[v19, v36] (fun v41 w =>
    NextP Tryz.prog (nilChk v41) (fun v44 w =>
    LiftP Tryz.prog (Instr.fieldAt 63 v44 0) (fun v45 w =>
    LiftU Tryz.prog (Instr.storeAt 3 v45 v38) (fun v_ w =>
    CallP Tryz.prog 25 #[v18, (Go.Value.int Go.IntKind.i64 4)] (fun v47 w =>
    LoopP (fun J_1 vs_1 w =>   -- [10]
      LiftP Tryz.prog (binS Go.BinOp.gtr 3 (Go.Operand.tmp 48) (Go.Operand.const (Go.Value.int Go.IntKind.i64 0)) (vs_1.headD undef) (Go.Value.int Go.IntKind.i64 0)) (fun v49 w =>
      GuardP v49 true (fun K w => K v18 w) (fun v51 w =>
      GuardP v49 true (fun K w => NextP Tryz.prog (nilChk v51) K w) (fun v52 w =>
      GuardP v49 true (fun K w => LiftP Tryz.prog (Instr.fieldAt 71 v52 2) K w) (fun v53 w =>
      GuardP v49 true (fun K w => LiftP Tryz.prog (Instr.loadAt 4 v53) K w) (fun v54 w =>
      GuardP v49 true (fun K w => LiftP Tryz.prog (Op.unary Go.UnOp.not v54) K w) (fun v55 w =>
      PickP v49 v55 (Go.Value.bool false) (fun v56 w =>
      CondP v56 (fun w =>
        CallP Tryz.prog 25 #[v18, (Go.Value.int Go.IntKind.i64 1099511627776)] (fun v60 w =>
      DrawP (fun S w =>
      YieldN Tryz.prog S (nilChk v41) (fun v62 w =>
      YieldP Tryz.prog S (Instr.fieldAt 63 v62 1) (fun v63 w =>
      YieldP Tryz.prog S (Instr.loadAt 61 v63) (fun v64 w =>
      ActP S (fun K w => CallP Tryz.prog 26 #[v18] K w) (fun S v67 w =>
      LiftU Tryz.prog (Instr.mapUpdate 61 v64 v60 v67) (fun v__1 w =>
      LiftP Tryz.prog (binS Go.BinOp.sub 3 (Go.Operand.tmp 57) (Go.Operand.const (Go.Value.int Go.IntKind.i64 1)) (vs_1.headD undef) (Go.Value.int Go.IntKind.i64 1)) (fun v58 w =>
      J_1 [v58] w) w) w) w) w) w) w) w) w) (fun w =>
        LiftP Tryz.prog (binS Go.BinOp.sub 3 (Go.Operand.tmp 33) (Go.Operand.const (Go.Value.int Go.IntKind.i64 1)) (vs.headD undef) (Go.Value.int Go.IntKind.i64 1)) (fun v34 w =>
    J [v34] w) w) w) w) w) w) w) w) w) w) [v47] w) w) w) w) w) w) w) w) (fun w =>
      NextP Tryz.prog (nilChk v18) (fun v69 w =>
  LiftP Tryz.prog (Instr.fieldAt 71 v69 2) (fun v70 w =>
  LiftP Tryz.prog (Instr.loadAt 4 v70) (fun v71 w =>
  GuardP v71 false (fun K w => K v19 w) (fun v73 w =>
  GuardP v71 false (fun K w => CallP Tryz.prog 10 #[v73] K w) (fun v74 w =>
  GuardP v71 false (fun K w => K a0 w) (fun v75 w =>
  GuardP v71 false (fun K w => LiftP Tryz.prog (binS Go.BinOp.neq 9 (Go.Operand.tmp 74) (Go.Operand.tmp 75) v74 v75) K w) (fun v76 w =>
  PickP v71 (Go.Value.bool true) v76 (fun v77 w =>
  CondP v77 (fun w =>
    R (.tuple #[(Go.Value.pointer none), (Go.Value.int Go.IntKind.i64 3)]) w) (fun w =>
    NextP Tryz.prog (nilChk v19) (fun v79 w =>
  LiftP Tryz.prog (Instr.fieldAt 55 v79 0) (fun v80 w =>
  LiftP Tryz.prog (Instr.loadAt 53 v80) (fun v81 w =>
  LiftP Tryz.prog (Instr.range 53 v81) (fun v82 w =>
  LoopP (fun J_2 vs_2 w =>   -- []
    LiftP Tryz.prog (Instr.next v82 false 0) (fun v83 w =>
    LiftP Tryz.prog (Instr.extract v83 0) (fun v84 w =>
    CondP v84 (fun w =>
      LiftP Tryz.prog (Instr.entry v82) (fun v85 w =>
    LiftP Tryz.prog (Instr.extract v85 1) (fun v86 w =>
    NextP Tryz.prog (nilChk v86) (fun v88 w =>
    LiftP Tryz.prog (Instr.fieldAt 63 v88 1) (fun v89 w =>
    LiftP Tryz.prog (Instr.loadAt 61 v89) (fun v90 w =>
    NextP Tryz.prog (builtin Go.Builtin.len #[61] 3 #[false] #[v90]) (fun v91 w =>
    LiftP Tryz.prog (binS Go.BinOp.eql 3 (Go.Operand.tmp 91) (Go.Operand.const (Go.Value.int Go.IntKind.i64 0)) v91 (Go.Value.int Go.IntKind.i64 0)) (fun v92 w =>
    GuardP v92 false (fun K w => K v86 w) (fun v94 w =>
    GuardP v92 false (fun K w => NextP Tryz.prog (nilChk v94) K w) (fun v95 w =>
    GuardP v92 false (fun K w => LiftP Tryz.prog (Instr.fieldAt 63 v95 0) K w) (fun v96 w =>
    GuardP v92 false (fun K w => LiftP Tryz.prog (Instr.loadAt 3 v96) K w) (fun v97 w =>
    GuardP v92 false (fun K w => LiftP Tryz.prog (binS Go.BinOp.gtr 3 (Go.Operand.tmp 97) (Go.Operand.const (Go.Value.int Go.IntKind.i64 0)) v97 (Go.Value.int Go.IntKind.i64 0)) K w) (fun v98 w =>
    GuardP v92 false (fun K w => K v98 w) (fun v99 w =>
    GuardP v99 true (fun K w => K v86 w) (fun v100 w =>
    GuardP v99 true (fun K w => NextP Tryz.prog (nilChk v100) K w) (fun v101 w =>
    GuardP v99 true (fun K w => LiftP Tryz.prog (Instr.fieldAt 63 v101 1) K w) (fun v102 w =>
    GuardP v99 true (fun K w => LiftP Tryz.prog (Instr.loadAt 61 v102) K w) (fun v103 w =>
    GuardP v99 true (fun K w => NextP Tryz.prog (builtin Go.Builtin.len #[61] 3 #[false] #[v103]) K w) (fun v104 w =>
    GuardP v99 true (fun K w => LiftP Tryz.prog (binS Go.BinOp.neq 3 (Go.Operand.tmp 104) (Go.Operand.const (Go.Value.int Go.IntKind.i64 4)) v104 (Go.Value.int Go.IntKind.i64 4)) K w) (fun v105 w =>
    GuardP v92 false (fun K w => PickP v99 v105 (Go.Value.bool false) K w) (fun v106 w =>
    PickP v92 (Go.Value.bool true) v106 (fun v107 w =>
    CondP v107 (fun w =>
      R (.tuple #[(Go.Value.pointer none), (Go.Value.int Go.IntKind.i64 3)]) w) (fun w =>
      NextP Tryz.prog (nilChk v86) (fun v109 w =>
    LiftP Tryz.prog (Instr.fieldAt 63 v109 1) (fun v110 w =>
    LiftP Tryz.prog (Instr.loadAt 61 v110) (fun v111 w =>
    LiftP Tryz.prog (Instr.range 61 v111) (fun v112 w =>
    LoopP (fun J_3 vs_3 w =>   -- []
      LiftP Tryz.prog (Instr.next v112 false 0) (fun v113 w =>
      LiftP Tryz.prog (Instr.extract v113 0) (fun v114 w =>
      CondP v114 (fun w =>
        LiftP Tryz.prog (Instr.entry v112) (fun v115 w =>
      LiftP Tryz.prog (Instr.extract v115 0) (fun v116 w =>
      NextP Tryz.prog (nilChk v86) (fun v119 w =>
      LiftP Tryz.prog (Instr.fieldAt 63 v119 0) (fun v120 w =>
      LiftP Tryz.prog (Instr.loadAt 3 v120) (fun v121 w =>
      LiftP Tryz.prog (binS Go.BinOp.leq 3 (Go.Operand.tmp 117) (Go.Operand.tmp 121) v116 v121) (fun v122 w =>
      CondP v122 (fun w =>
        R (.tuple #[(Go.Value.pointer none), (Go.Value.int Go.IntKind.i64 3)]) w) (fun w =>
        J_3 [] w) w) w) w) w) w) w) w) (fun w =>
        J_2 [] w) w) w) w) [] w) w) w) w) w) w) w) w) w) w) w) w) w) w) w) w) w) w) w) w) w) w) w) w) w) w) w) (fun w =>
      R (.tuple #[v19, (Go.Value.int Go.IntKind.i64 0)]) w) w) w) w) [] w) w) w) w) w) w) w) w) w) w) w) w) w) w) w) w) w) w) w) w) w) w) [v23] w) w) w) w) w) w) w
theorem S9.calls (a0 : Value) (R : Value → World → Prop) (w : World) (h : S9 a0 R w) : Calls Tryz.prog 9 #[a0] w fun e w' => ∃ v, e = .returned v ∧ R v w' :=
  calls_of_tr (n := 124) (c := bodyOf Tryz.f9) (.two .leaf (.two .leaf (.two .leaf (.two (.two .leaf (.one (.loop [6] (.two (.two .leaf (.two .leaf .leaf)) (.two (.one (.two .leaf (.two .leaf (.two .leaf (.two .leaf (.one (.loop [10] (.two (.two .leaf (.two .leaf .leaf)) (.two (.one (.two .leaf (.drawL [(true, 0), (true, 1), (true, 2), (true, 3), (true, 4), (true, 5), (false, 6)] 7))) .leaf))))))))) .leaf))))) (.two (.two .leaf (.two (.two .leaf .leaf) .leaf)) (.two (.two .leaf (.one (.loop [] (.two .leaf (.two (.two .leaf .leaf) (.one (.two .leaf (.two (.two .leaf (.two (.two .leaf .leaf) .leaf)) (.two .leaf (.one (.loop [] (.two .leaf (.two (.two .leaf .leaf) (.one (.two .leaf (.two .leaf (.two (.two .leaf .leaf) .leaf))))))))))))))))) (.two .leaf .leaf))))))) Tryz.func9 (by kernel_rfl) Tryz.ntmps9 (by kernel_rfl) (by kernel_rfl) [a0] (by kernel_rfl) (of_eq_ (by kernel_rfl) h)

/-- (*shelfmark/once.Table).Save -/
def S10 (a0 : Value) (R : Value → World → Prop) (w : World) : Prop :=
  NextP Tryz.prog (nilChk a0) (fun v14 w =>
  LiftP Tryz.prog (Instr.fieldAt 55 v14 0) (fun v15 w =>
  LiftP Tryz.prog (Instr.loadAt 53 v15) (fun v16 w =>
  NextP Tryz.prog (builtin Go.Builtin.len #[53] 3 #[false] #[v16]) (fun v17 w =>
  CallP Tryz.prog 27 #[v17] (fun v18 w =>
  NextP Tryz.prog (nilChk a0) (fun v20 w =>
  LiftP Tryz.prog (Instr.fieldAt 55 v20 0) (fun v21 w =>
  LiftP Tryz.prog (Instr.loadAt 53 v21) (fun v22 w =>
  CallP Tryz.prog 29 #[v22] (fun v23 w =>
  CallP Tryz.prog 28 #[v23] (fun v24 w =>
  NextP Tryz.prog (builtin Go.Builtin.len #[74] 3 #[false] #[v24]) (fun v25 w =>
  LoopP (fun J vs w =>   -- [3, 26]
    LiftP Tryz.prog (binS Go.BinOp.lss 3 (Go.Operand.tmp 26) (Go.Operand.tmp 25) (vs.tail.headD undef) v25) (fun v27 w =>
    CondP v27 (fun w =>
      LiftP Tryz.prog (Instr.indexAt 74 v24 (vs.tail.headD undef)) (fun v28 w =>
    LiftP Tryz.prog (Instr.loadAt 3 v28) (fun v29 w =>
    NextP Tryz.prog (nilChk a0) (fun v31 w =>
    LiftP Tryz.prog (Instr.fieldAt 55 v31 0) (fun v32 w =>
    LiftP Tryz.prog (Instr.loadAt 53 v32) (fun v33 w =>
    LiftP Tryz.prog (Instr.lookup 53 v33 v29 false) (fun v35 w =>
    DrawP (fun S w =>
    YieldN Tryz.prog S (nilChk v35) (fun v40 w =>
    YieldP Tryz.prog S (Instr.fieldAt 63 v40 0) (fun v41 w =>
    YieldP Tryz.prog S (Instr.loadAt 3 v41) (fun v42 w =>
    YieldN Tryz.prog S (nilChk v35) (fun v45 w =>
    YieldP Tryz.prog S (Instr.fieldAt 63 v45 1) (fun v46 w =>
    YieldP Tryz.prog S (Instr.loadAt 61 v46) (fun v47 w =>
    ActP S (fun K w => CallP Tryz.prog 27 #[v29] K w) (fun S v38 w =>
    ActP S (fun K w => CallP Tryz.prog 27 #[v42] K w) (fun S v43 w =>
    YieldN Tryz.prog S (builtin Go.Builtin.len #[61] 3 #[false] #[v47]) (fun v48 w =>
    ActP S (fun K w => CallP Tryz.prog 27 #[v48] K w) (fun S v49 w =>
    ActP S (fun K w => LiftP Tryz.prog (Instr.buildSlice 108 3 #[(0, v38), (1, v43), (2, v49)]) K w) (fun S v50 w =>
    ActP S (fun K w => CallP Tryz.prog 30 #[v50] K w) (fun S v51 w =>
    ActP S (fun K w => NextP Tryz.prog (builtin Go.Builtin.append #[69, 69] 69 #[false, false] #[(vs.headD undef), v51]) K w) (fun S v52 w =>
    NextP Tryz.prog (nilChk v35) (fun v54 w =>
    LiftP Tryz.prog (Instr.fieldAt 63 v54 1) (fun v55 w =>
    LiftP Tryz.prog (Instr.loadAt 61 v55) (fun v56 w =>
    CallP Tryz.prog 31 #[v56] (fun v57 w =>
    CallP Tryz.prog 28 #[v57] (fun v58 w =>
    NextP Tryz.prog (builtin Go.Builtin.len #[74] 3 #[false] #[v58]) (fun v59 w =>
    LoopP (fun J_1 vs_1 w =>   -- [3, 60]
      LiftP Tryz.prog (binS Go.BinOp.lss 3 (Go.Operand.tmp 60) (Go.Operand.tmp 59) (vs_1.tail.headD undef) v59) (fun v61 w =>
      CondP v61 (fun w =>
        LiftP Tryz.prog (Instr.indexAt 74 v58 (vs_1.tail.headD undef)) (fun v62 w =>
      LiftP Tryz.prog (Instr.loadAt 3 v62) (fun v63 w =>
      NextP Tryz.prog (nilChk v35) (fun v65 w =>
      LiftP Tryz.prog (Instr.fieldAt 63 v65 1) (fun v66 w =>
      LiftP Tryz.prog (Instr.loadAt 61 v66) (fun v67 w =>
      LiftP Tryz.prog (Instr.lookup 61 v67 v63 false) (fun v69 w =>
      LiftP Tryz.prog (Instr.alloc 39 true (.tuple #[])) (fun v9 w =>
      LiftU Tryz.prog (Instr.storeAt 39 v9 v69) (fun v_ w =>
      JoinP (fun J_2 w =>
        LiftP Tryz.prog (Instr.fieldAt 39 v9 1) (fun v70 w =>
        LiftP Tryz.prog (Instr.loadAt 4 v70) (fun v71 w =>
        CondP v71 (fun w =>
          J_2 [(Go.Value.int Go.IntKind.i64 1)] w) (fun w =>
          J_2 [(Go.Value.int Go.IntKind.i64 0)] w) w) w) w) (fun vs_2 w =>   -- [10]
      LiftP Tryz.prog (Instr.fieldAt 39 v9 2) (fun v73 w =>
      LiftP Tryz.prog (Instr.loadAt 36 v73) (fun v74 w =>
      CallP Tryz.prog 32 #[v74] (fun v75 w =>
      LiftP Tryz.prog (Instr.extract v75 0) (fun v76 w =>
      LiftP Tryz.prog (Instr.extract v75 1) (fun v77 w =>
      DrawP (fun S w =>
      YieldP Tryz.prog S (Instr.fieldAt 39 v9 0) (fun v81 w =>
      YieldP Tryz.prog S (Instr.loadAt 34 v81) (fun v82 w =>
      YieldP Tryz.prog S (Instr.fieldAt 39 v9 4) (fun v86 w =>
      YieldP Tryz.prog S (Instr.loadAt 3 v86) (fun v87 w =>
      ActP S (fun K w => CallP Tryz.prog 27 #[v63] K w) (fun S v80 w =>
      ActP S (fun K w => CallP Tryz.prog 27 #[v82] K w) (fun S v83 w =>
      ActP S (fun K w => CallP Tryz.prog 27 #[(vs_2.headD undef)] K w) (fun S v85 w =>
      ActP S (fun K w => CallP Tryz.prog 27 #[v87] K w) (fun S v88 w =>
      ActP S (fun K w => CallP Tryz.prog 33 #[v76] K w) (fun S v90 w =>
      ActP S (fun K w => LiftP Tryz.prog (Instr.buildSlice 108 5 #[(0, v80), (1, v83), (2, v85), (3, v88), (4, v90)]) K w) (fun S v91 w =>
      ActP S (fun K w => CallP Tryz.prog 30 #[v91] K w) (fun S v92 w =>
      ActP S (fun K w => NextP Tryz.prog (builtin Go.Builtin.append #[69, 69] 69 #[false, false] #[(vs_1.headD undef), v92]) K w) (fun S v93 w =>
      LiftP Tryz.prog (binS Go.BinOp.add 3 (Go.Operand.tmp 60) (Go.Operand.const (Go.Value.int Go.IntKind.i64 1)) (vs_1.tail.headD undef) (Go.Value.int Go.IntKind.i64 1)) (fun v94 w =>
      J_1 [v93, v94] w) w) w) w) w) w) w) w) w) w) w) w) w) w) w) w) w) w) w) w) w) w) w) w) w) w) w) w) w) (fun w =>
        LiftP Tryz.prog (binS Go.BinOp.add 3 (Go.Operand.tmp 26) (Go.Operand.const (Go.Value.int Go.IntKind.i64 1)) (vs.tail.headD undef) (Go.Value.int Go.IntKind.i64 1)) (fun v95 w =>
    J [(vs_1.headD undef), v95] w) w) w) w) [v52, (Go.Value.int Go.IntKind.i64 0)] w) w) w) w) w) w) w) w) w) w) w) w) w) w) w) w) w) w) w) w) w) w) w) w) w) w) w) (fun w =>
      LiftP Tryz.prog (convert 69 9 (vs.headD undef)) (fun v97 w =>
  R v97 w) w) w) w) [v18, (Go.Value.int Go.IntKind.i64 0)] w) w) w) w) w) w) w) w) w) w) w) w
theorem S10.calls (a0 : Value) (R : Value → World → Prop) (w : World) (h : S10 a0 R w) : Calls Tryz.prog 10 #[a0] w fun e w' => ∃ v, e = .returned v ∧ R v w' :=
  calls_of_tr (n := 98) (c := bodyOf Tryz.f10) (.two .leaf (.two .leaf (.two (.two .leaf (.one (.loop [3, 26] (.two .leaf (.two (.two .leaf .leaf) (.two (.one (.two .leaf (.two .leaf (.two (.draw [(true, 0), (true, 1), (true, 3), (true, 4), (true, 5), (true, 6), (true, 8), (true, 9), (true, 10), (true, 11), (false, 2), (false, 7), (true, 12), (false, 13), (false, 14), (false, 15), (false, 16), (true, 17)]) (.two .leaf (.one (.loop [3, 60] (.two .leaf (.two (.two .leaf .leaf) (.two (.one (.two .leaf (.two .leaf (.two .leaf (.join [10] (.two .leaf (.two .leaf .leaf)) (.two .leaf (.draw [(true, 0), (true, 1), (true, 3), (true, 4), (true, 6), (true, 8), (true, 9), (true, 11), (false, 2), (false, 5), (false, 7), (false, 10), (false, 12), (false, 13), (false, 14), (false, 15), (true, 16)]))))))) .leaf)))))))))) .leaf)))))) (.two .leaf .leaf)))) Tryz.func10 (by kernel_rfl) Tryz.ntmps10 (by kernel_rfl) (by kernel_rfl) [a0] (by kernel_rfl) (of_eq_ (by kernel_rfl) h)

/-- shelfmark/shelfmarklaw17.same -/
def S11 (a0 a1 a2 : Value) (R : Value → World → Prop) (w : World) : Prop :=
  LiftP Tryz.prog (binS Go.BinOp.eql 25 (Go.Operand.tmp 14) (Go.Operand.const (Go.Value.pointer none)) a0 (Go.Value.pointer none)) (fun v15 w =>
  CondP v15 (fun w =>
    R (Go.Value.bool false) w) (fun w =>
    LoopP (fun J vs w =>   -- [7]
    NextP Tryz.prog (builtin Go.Builtin.len #[22] 3 #[false] #[a2]) (fun v18 w =>
    LiftP Tryz.prog (binS Go.BinOp.lss 3 (Go.Operand.tmp 16) (Go.Operand.tmp 18) (vs.headD undef) v18) (fun v19 w =>
    CondP v19 (fun w =>
      DrawP (fun S w =>
    YieldP Tryz.prog S (Instr.indexAt 22 a2 (vs.headD undef)) (fun v24 w =>
    YieldP Tryz.prog S (Instr.fieldAt 41 v24 1) (fun v25 w =>
    YieldP Tryz.prog S (Instr.loadAt 3 v25) (fun v26 w =>
    YieldP Tryz.prog S (Instr.indexAt 22 a2 (vs.headD undef)) (fun v29 w =>
    YieldP Tryz.prog S (Instr.fieldAt 41 v29 2) (fun v30 w =>
    YieldP Tryz.prog S (Instr.loadAt 3 v30) (fun v31 w =>
    CallP Tryz.prog 13 #[a0, v26, v31] (fun v36 w =>
    LiftP Tryz.prog (Instr.extract v36 0) (fun v37 w =>
    LiftP Tryz.prog (Instr.extract v36 1) (fun v38 w =>
    LiftP Tryz.prog (Instr.alloc 39 true (.tuple #[])) (fun v10 w =>
    LiftU Tryz.prog (Instr.storeAt 39 v10 v37) (fun v_ w =>
    CallP Tryz.prog 23 #[a1, v26, v31] (fun v43 w =>
    LiftP Tryz.prog (Instr.extract v43 0) (fun v44 w =>
    LiftP Tryz.prog (Instr.extract v43 1) (fun v45 w =>
    LiftP Tryz.prog (Instr.alloc 39 true (.tuple #[])) (fun v12 w =>
    LiftU Tryz.prog (Instr.storeAt 39 v12 v44) (fun v__1 w =>
    LiftP Tryz.prog (binS Go.BinOp.neq 34 (Go.Operand.tmp 46) (Go.Operand.tmp 47) v38 v45) (fun v48 w =>
    GuardP v48 false (fun K w => LiftP Tryz.prog (Instr.loadAt 39 v10) K w) (fun v50 w =>
    GuardP v48 false (fun K w => LiftP Tryz.prog (Instr.loadAt 39 v12) K w) (fun v51 w =>
    GuardP v48 false (fun K w => CallP Tryz.prog 34 #[v50, v51] K w) (fun v52 w =>
    GuardP v48 false (fun K w => LiftP Tryz.prog (Op.unary Go.UnOp.not v52) K w) (fun v53 w =>
    PickP v48 (Go.Value.bool true) v53 (fun v54 w =>
    GuardP v54 false (fun K w => K a0 w) (fun v56 w =>
    GuardP v54 false (fun K w => K v26 w) (fun v57 w =>
    GuardP v54 false (fun K w => CallP Tryz.prog 14 #[v56, v57] K w) (fun v58 w =>
    GuardP v54 false (fun K w => K a1 w) (fun v59 w =>
    GuardP v54 false (fun K w => K v26 w) (fun v60 w =>
    GuardP v54 false (fun K w => CallP Tryz.prog 35 #[v59, v60] K w) (fun v61 w =>
    GuardP v54 false (fun K w => LiftP Tryz.prog (binS Go.BinOp.neq 3 (Go.Operand.tmp 58) (Go.Operand.tmp 61) v58 v61) K w) (fun v62 w =>
    PickP v54 (Go.Value.bool true) v62 (fun v63 w =>
    GuardP v63 false (fun K w => K a0 w) (fun v65 w =>
    GuardP v63 false (fun K w => K v26 w) (fun v66 w =>
    GuardP v63 false (fun K w => CallP Tryz.prog 37 #[v65, v66] K w) (fun v67 w =>
    GuardP v63 false (fun K w => K a1 w) (fun v68 w =>
    GuardP v63 false (fun K w => K v26 w) (fun v69 w =>
    GuardP v63 false (fun K w => CallP Tryz.prog 38 #[v68, v69] K w) (fun v70 w =>
    GuardP v63 false (fun K w => CallP Tryz.prog 36 #[v67, v70] K w) (fun v71 w =>
    GuardP v63 false (fun K w => LiftP Tryz.prog (Op.unary Go.UnOp.not v71) K w) (fun v72 w =>
    PickP v63 (Go.Value.bool true) v72 (fun v73 w =>
    CondP v73 (fun w =>
      R (Go.Value.bool false) w) (fun w =>
      LiftP Tryz.prog (binS Go.BinOp.add 3 (Go.Operand.tmp 20) (Go.Operand.const (Go.Value.int Go.IntKind.i64 1)) (vs.headD undef) (Go.Value.int Go.IntKind.i64 1)) (fun v21 w =>
    J [v21] w) w) w) w) w) w) w) w) w) w) w) w) w) w) w) w) w) w) w) w) w) w) w) w) w) w) w) w) w) w) w) w) w) w) w) w) w) w) w) w) w) w) w) (fun w =>
      R (Go.Value.bool true) w) w) w) w) [(Go.Value.int Go.IntKind.i64 0)] w) w) w
theorem S11.calls (a0 a1 a2 : Value) (R : Value → World → Prop) (w : World) (h : S11 a0 a1 a2 R w) : Calls Tryz.prog 11 #[a0, a1, a2] w fun e w' => ∃ v, e = .returned v ∧ R v w' :=
  calls_of_tr (n := 74) (c := bodyOf Tryz.f11) (.two .leaf (.two (.two .leaf (.two (.two .leaf .leaf) .leaf)) (.two (.two .leaf (.one (.loop [7] (.two (.two .leaf (.two .leaf .leaf)) (.two (.one (.two (.draw [(true, 0), (true, 1), (true, 2), (true, 3), (true, 4), (true, 5), (true, 6), (true, 7), (true, 8), (true, 9), (true, 10), (true, 11)]) (.two .leaf (.two .leaf (.two .leaf (.two (.two .leaf .leaf) .leaf)))))) .leaf))))) (.two .leaf .leaf)))) Tryz.func11 (by kernel_rfl) Tryz.ntmps11 (by kernel_rfl) (by kernel_rfl) [a0, a1, a2] (by kernel_rfl) (of_eq_ (by kernel_rfl) h)

/-- shelfmark/shelfmarkref17.Same -/
def S12 (a0 a1 : Value) (R : Value → World → Prop) (w : World) : Prop :=
  DrawP (fun S w =>
  YieldN Tryz.prog S (nilChk a0) (fun v8 w =>
  YieldP Tryz.prog S (Instr.fieldAt 32 v8 0) (fun v9 w =>
  YieldP Tryz.prog S (Instr.loadAt 29 v9) (fun v10 w =>
  YieldN Tryz.prog S (builtin Go.Builtin.len #[29] 3 #[false] #[v10]) (fun v11 w =>
  YieldN Tryz.prog S (nilChk a1) (fun v13 w =>
  YieldP Tryz.prog S (Instr.fieldAt 32 v13 0) (fun v14 w =>
  YieldP Tryz.prog S (Instr.loadAt 29 v14) (fun v15 w =>
  YieldN Tryz.prog S (builtin Go.Builtin.len #[29] 3 #[false] #[v15]) (fun v16 w =>
  YieldP Tryz.prog S (binS Go.BinOp.neq 3 (Go.Operand.tmp 11) (Go.Operand.tmp 16) v11 v16) (fun v17 w =>
  GuardP v17 false (fun K w => K a0 w) (fun v19 w =>
  GuardP v17 false (fun K w => YieldN Tryz.prog S (nilChk v19) K w) (fun v20 w =>
  GuardP v17 false (fun K w => YieldP Tryz.prog S (Instr.fieldAt 32 v20 1) K w) (fun v21 w =>
  GuardP v17 false (fun K w => YieldP Tryz.prog S (Instr.loadAt 30 v21) K w) (fun v22 w =>
  GuardP v17 false (fun K w => YieldN Tryz.prog S (builtin Go.Builtin.len #[30] 3 #[false] #[v22]) K w) (fun v23 w =>
  GuardP v17 false (fun K w => K a1 w) (fun v24 w =>
  GuardP v17 false (fun K w => YieldN Tryz.prog S (nilChk v24) K w) (fun v25 w =>
  GuardP v17 false (fun K w => YieldP Tryz.prog S (Instr.fieldAt 32 v25 1) K w) (fun v26 w =>
  GuardP v17 false (fun K w => YieldP Tryz.prog S (Instr.loadAt 30 v26) K w) (fun v27 w =>
  GuardP v17 false (fun K w => YieldN Tryz.prog S (builtin Go.Builtin.len #[30] 3 #[false] #[v27]) K w) (fun v28 w =>
  GuardP v17 false (fun K w => YieldP Tryz.prog S (binS Go.BinOp.neq 3 (Go.Operand.tmp 23) (Go.Operand.tmp 28) v23 v28) K w) (fun v29 w =>
  PickP v17 (Go.Value.bool true) v29 (fun v30 w =>
  CondP v30 (fun w =>
    R (Go.Value.bool false) w) (fun w =>
    LoopP (fun J vs w =>   -- [5]
    NextP Tryz.prog (nilChk a0) (fun v33 w =>
    LiftP Tryz.prog (Instr.fieldAt 32 v33 0) (fun v34 w =>
    LiftP Tryz.prog (Instr.loadAt 29 v34) (fun v35 w =>
    NextP Tryz.prog (builtin Go.Builtin.len #[29] 3 #[false] #[v35]) (fun v36 w =>
    LiftP Tryz.prog (binS Go.BinOp.lss 3 (Go.Operand.tmp 31) (Go.Operand.tmp 36) (vs.headD undef) v36) (fun v37 w =>
    CondP v37 (fun w =>
      DrawP (fun S w =>
    YieldN Tryz.prog S (nilChk a0) (fun v41 w =>
    YieldP Tryz.prog S (Instr.fieldAt 32 v41 0) (fun v42 w =>
    YieldP Tryz.prog S (Instr.loadAt 29 v42) (fun v43 w =>
    YieldP Tryz.prog S (Instr.indexAt 29 v43 (vs.headD undef)) (fun v45 w =>
    YieldP Tryz.prog S (Instr.fieldAt 67 v45 0) (fun v46 w =>
    YieldP Tryz.prog S (Instr.loadAt 3 v46) (fun v47 w =>
    YieldN Tryz.prog S (nilChk a1) (fun v49 w =>
    YieldP Tryz.prog S (Instr.fieldAt 32 v49 0) (fun v50 w =>
    YieldP Tryz.prog S (Instr.loadAt 29 v50) (fun v51 w =>
    YieldP Tryz.prog S (Instr.indexAt 29 v51 (vs.headD undef)) (fun v53 w =>
    YieldP Tryz.prog S (Instr.fieldAt 67 v53 0) (fun v54 w =>
    YieldP Tryz.prog S (Instr.loadAt 3 v54) (fun v55 w =>
    YieldP Tryz.prog S (binS Go.BinOp.neq 3 (Go.Operand.tmp 47) (Go.Operand.tmp 55) v47 v55) (fun v56 w =>
    GuardP v56 false (fun K w => K a0 w) (fun v58 w =>
    GuardP v56 false (fun K w => YieldN Tryz.prog S (nilChk v58) K w) (fun v59 w =>
    GuardP v56 false (fun K w => YieldP Tryz.prog S (Instr.fieldAt 32 v59 0) K w) (fun v60 w =>
    GuardP v56 false (fun K w => YieldP Tryz.prog S (Instr.loadAt 29 v60) K w) (fun v61 w =>
    GuardP v56 false (fun K w => K (vs.headD undef) w) (fun v62 w =>
    GuardP v56 false (fun K w => YieldP Tryz.prog S (Instr.indexAt 29 v61 v62) K w) (fun v63 w =>
    GuardP v56 false (fun K w => YieldP Tryz.prog S (Instr.fieldAt 67 v63 1) K w) (fun v64 w =>
    GuardP v56 false (fun K w => YieldP Tryz.prog S (Instr.loadAt 3 v64) K w) (fun v65 w =>
    GuardP v56 false (fun K w => K a1 w) (fun v66 w =>
    GuardP v56 false (fun K w => YieldN Tryz.prog S (nilChk v66) K w) (fun v67 w =>
    GuardP v56 false (fun K w => YieldP Tryz.prog S (Instr.fieldAt 32 v67 0) K w) (fun v68 w =>
    GuardP v56 false (fun K w => YieldP Tryz.prog S (Instr.loadAt 29 v68) K w) (fun v69 w =>
    GuardP v56 false (fun K w => K (vs.headD undef) w) (fun v70 w =>
    GuardP v56 false (fun K w => YieldP Tryz.prog S (Instr.indexAt 29 v69 v70) K w) (fun v71 w =>
    GuardP v56 false (fun K w => YieldP Tryz.prog S (Instr.fieldAt 67 v71 1) K w) (fun v72 w =>
    GuardP v56 false (fun K w => YieldP Tryz.prog S (Instr.loadAt 3 v72) K w) (fun v73 w =>
    GuardP v56 false (fun K w => YieldP Tryz.prog S (binS Go.BinOp.neq 3 (Go.Operand.tmp 65) (Go.Operand.tmp 73) v65 v73) K w) (fun v74 w =>
    PickP v56 (Go.Value.bool true) v74 (fun v75 w =>
    GuardP v75 false (fun K w => K a0 w) (fun v77 w =>
    GuardP v75 false (fun K w => YieldN Tryz.prog S (nilChk v77) K w) (fun v78 w =>
    GuardP v75 false (fun K w => YieldP Tryz.prog S (Instr.fieldAt 32 v78 0) K w) (fun v79 w =>
    GuardP v75 false (fun K w => YieldP Tryz.prog S (Instr.loadAt 29 v79) K w) (fun v80 w =>
    GuardP v75 false (fun K w => K (vs.headD undef) w) (fun v81 w =>
    GuardP v75 false (fun K w => YieldP Tryz.prog S (Instr.indexAt 29 v80 v81) K w) (fun v82 w =>
    GuardP v75 false (fun K w => YieldP Tryz.prog S (Instr.fieldAt 67 v82 2) K w) (fun v83 w =>
    GuardP v75 false (fun K w => YieldP Tryz.prog S (Instr.loadAt 39 v83) K w) (fun v84 w =>
    GuardP v75 false (fun K w => K a1 w) (fun v85 w =>
    GuardP v75 false (fun K w => YieldN Tryz.prog S (nilChk v85) K w) (fun v86 w =>
    GuardP v75 false (fun K w => YieldP Tryz.prog S (Instr.fieldAt 32 v86 0) K w) (fun v87 w =>
    GuardP v75 false (fun K w => YieldP Tryz.prog S (Instr.loadAt 29 v87) K w) (fun v88 w =>
    GuardP v75 false (fun K w => K (vs.headD undef) w) (fun v89 w =>
    GuardP v75 false (fun K w => YieldP Tryz.prog S (Instr.indexAt 29 v88 v89) K w) (fun v90 w =>
    GuardP v75 false (fun K w => YieldP Tryz.prog S (Instr.fieldAt 67 v90 2) K w) (fun v91 w =>
    GuardP v75 false (fun K w => YieldP Tryz.prog S (Instr.loadAt 39 v91) K w) (fun v92 w =>
    GuardA v75 false S (fun K w => CallP Tryz.prog 34 #[v84, v92] K w) (fun S v93 w =>
    GuardP v75 false (fun K w => YieldP Tryz.prog S (Op.unary Go.UnOp.not v93) K w) (fun v94 w =>
    PickP v75 (Go.Value.bool true) v94 (fun v95 w =>
    CondP v95 (fun w =>
      R (Go.Value.bool false) w) (fun w =>
      LiftP Tryz.prog (binS Go.BinOp.add 3 (Go.Operand.tmp 38) (Go.Operand.const (Go.Value.int Go.IntKind.i64 1)) (vs.headD undef) (Go.Value.int Go.IntKind.i64 1)) (fun v39 w =>
    J [v39] w) w) w) w) w) w) w) w) w) w) w) w) w) w) w) w) w) w) w) w) w) w) w) w) w) w) w) w) w) w) w) w) w) w) w) w) w) w) w) w) w) w) w) w) w) w) w) w) w) w) w) w) w) w) (fun w =>
      LoopP (fun J_1 vs_1 w =>   -- [6]
    NextP Tryz.prog (nilChk a0) (fun v98 w =>
    LiftP Tryz.prog (Instr.fieldAt 32 v98 1) (fun v99 w =>
    LiftP Tryz.prog (Instr.loadAt 30 v99) (fun v100 w =>
    NextP Tryz.prog (builtin Go.Builtin.len #[30] 3 #[false] #[v100]) (fun v101 w =>
    LiftP Tryz.prog (binS Go.BinOp.lss 3 (Go.Operand.tmp 96) (Go.Operand.tmp 101) (vs_1.headD undef) v101) (fun v102 w =>
    CondP v102 (fun w =>
      DrawP (fun S w =>
    YieldN Tryz.prog S (nilChk a0) (fun v106 w =>
    YieldP Tryz.prog S (Instr.fieldAt 32 v106 1) (fun v107 w =>
    YieldP Tryz.prog S (Instr.loadAt 30 v107) (fun v108 w =>
    YieldP Tryz.prog S (Instr.indexAt 30 v108 (vs_1.headD undef)) (fun v110 w =>
    YieldP Tryz.prog S (Instr.loadAt 88 v110) (fun v111 w =>
    YieldN Tryz.prog S (nilChk a1) (fun v113 w =>
    YieldP Tryz.prog S (Instr.fieldAt 32 v113 1) (fun v114 w =>
    YieldP Tryz.prog S (Instr.loadAt 30 v114) (fun v115 w =>
    YieldP Tryz.prog S (Instr.indexAt 30 v115 (vs_1.headD undef)) (fun v117 w =>
    YieldP Tryz.prog S (Instr.loadAt 88 v117) (fun v118 w =>
    YieldP Tryz.prog S (binS Go.BinOp.neq 88 (Go.Operand.tmp 111) (Go.Operand.tmp 118) v111 v118) (fun v119 w =>
    CondP v119 (fun w =>
      R (Go.Value.bool false) w) (fun w =>
      LiftP Tryz.prog (binS Go.BinOp.add 3 (Go.Operand.tmp 103) (Go.Operand.const (Go.Value.int Go.IntKind.i64 1)) (vs_1.headD undef) (Go.Value.int Go.IntKind.i64 1)) (fun v104 w =>
    J_1 [v104] w) w) w) w) w) w) w) w) w) w) w) w) w) w) w) (fun w =>
      R (Go.Value.bool true) w) w) w) w) w) w) w) [(Go.Value.int Go.IntKind.i64 0)] w) w) w) w) w) w) w) [(Go.Value.int Go.IntKind.i64 0)] w) w) w) w) w) w) w) w) w) w) w) w) w) w) w) w) w) w) w) w) w) w) w) w
theorem S12.calls (a0 a1 : Value) (R : Value → World → Prop) (w : World) (h : S12 a0 a1 R w) : Calls Tryz.prog 12 #[a0, a1] w fun e w' => ∃ v, e = .returned v ∧ R v w' :=
  calls_of_tr (n := 120) (c := bodyOf Tryz.f12) (.two .leaf (.two (.two (.draw [(true, 0), (true, 1), (true, 2), (true, 3), (true, 4), (true, 5), (true, 6), (true, 7), (true, 8), (true, 9), (true, 10), (true, 11), (true, 12), (true, 13), (true, 14), (true, 15), (true, 16), (true, 17), (true, 18), (true, 19), (true, 20), (true, 21), (true, 22), (true, 23)]) (.two (.two .leaf .leaf) .leaf)) (.two (.two .leaf (.one (.loop [5] (.two (.two .leaf (.two .leaf .leaf)) (.two (.one (.two (.draw [(true, 0), (true, 1), (true, 2), (true, 3), (true, 4), (true, 5), (true, 6), (true, 7), (true, 8), (true, 9), (true, 10), (true, 11), (true, 12), (true, 13), (true, 14), (true, 15), (true, 16), (true, 17), (true, 18), (true, 19), (true, 20), (true, 21), (true, 22), (true, 23), (true, 24), (true, 25), (true, 26), (true, 27), (true, 28), (true, 29), (true, 30), (true, 31), (true, 32), (true, 33), (true, 34), (true, 35), (true, 36), (true, 37), (true, 38), (true, 39), (true, 40), (true, 41), (true, 42), (true, 43), (true, 44), (true, 45), (true, 46), (true, 47), (true, 48), (true, 49), (true, 50), (true, 51), (true, 52), (false, 53), (true, 54), (true, 55)]) (.two (.two .leaf .leaf) .leaf))) .leaf))))) (.two (.two .leaf (.one (.loop [6] (.two (.two .leaf (.two .leaf .leaf)) (.two (.one (.two (.draw [(true, 0), (true, 1), (true, 2), (true, 3), (true, 4), (true, 5), (true, 6), (true, 7), (true, 8), (true, 9), (true, 10), (true, 11), (true, 12), (true, 13), (true, 14)]) (.two (.two .leaf .leaf) .leaf))) .leaf))))) (.two .leaf .leaf))))) Tryz.func12 (by kernel_rfl) Tryz.ntmps12 (by kernel_rfl) (by kernel_rfl) [a0, a1] (by kernel_rfl) (of_eq_ (by kernel_rfl) h)

/-- (*shelfmark/once.Table).Look -/
def S13 (a0 a1 a2 : Value) (R : Value → World → Prop) (w : World) : Prop :=
  LiftP Tryz.prog (Instr.alloc 39 true (.tuple #[])) (fun v6 w =>
  CallP Tryz.prog 16 #[a1, (Go.Value.int Go.IntKind.i64 0)] (fun v12 w =>
  LiftP Tryz.prog (Op.unary Go.UnOp.not v12) (fun v13 w =>
  GuardP v13 false (fun K w => K a2 w) (fun v15 w =>
  GuardP v13 false (fun K w => CallP Tryz.prog 16 #[v15, (Go.Value.int Go.IntKind.i64 1)] K w) (fun v16 w =>
  GuardP v13 false (fun K w => LiftP Tryz.prog (Op.unary Go.UnOp.not v16) K w) (fun v17 w =>
  PickP v13 (Go.Value.bool true) v17 (fun v18 w =>
  CondP v18 (fun w =>
    LiftP Tryz.prog (Instr.build 39 #[]) (fun v19 w =>
    LiftU Tryz.prog (Instr.storeAt 39 v6 v19) (fun v_ w =>
    RetC Tryz.prog v6 39 (fun x => R (.tuple #[x, (Go.Value.int Go.IntKind.i64 1)]) w) w) w) w) (fun w =>
    JoinP (fun J w =>
    NextP Tryz.prog (nilChk a0) (fun v21 w =>
    LiftP Tryz.prog (Instr.fieldAt 55 v21 0) (fun v22 w =>
    LiftP Tryz.prog (Instr.loadAt 53 v22) (fun v23 w =>
    LiftP Tryz.prog (Instr.lookup 53 v23 a1 false) (fun v25 w =>
    LiftP Tryz.prog (binS Go.BinOp.neq 58 (Go.Operand.tmp 26) (Go.Operand.const (Go.Value.pointer none)) v25 (Go.Value.pointer none)) (fun v27 w =>
    CondP v27 (fun w =>
      NextP Tryz.prog (nilChk v25) (fun v30 w =>
      LiftP Tryz.prog (Instr.fieldAt 63 v30 0) (fun v31 w =>
      LiftP Tryz.prog (Instr.loadAt 3 v31) (fun v32 w =>
      LiftP Tryz.prog (binS Go.BinOp.leq 3 (Go.Operand.tmp 28) (Go.Operand.tmp 32) a2 v32) (fun v33 w =>
      CondP v33 (fun w =>
        LiftP Tryz.prog (Instr.build 39 #[]) (fun v34 w =>
        LiftU Tryz.prog (Instr.storeAt 39 v6 v34) (fun v__1 w =>
        RetC Tryz.prog v6 39 (fun x_1 => R (.tuple #[x_1, (Go.Value.int Go.IntKind.i64 12)]) w) w) w) w) (fun w =>
        NextP Tryz.prog (nilChk v25) (fun v37 w =>
      LiftP Tryz.prog (Instr.fieldAt 63 v37 1) (fun v38 w =>
      LiftP Tryz.prog (Instr.loadAt 61 v38) (fun v39 w =>
      LiftP Tryz.prog (Instr.lookup 61 v39 a2 true) (fun v41 w =>
      LiftP Tryz.prog (Instr.extract v41 0) (fun v42 w =>
      LiftP Tryz.prog (Instr.extract v41 1) (fun v43 w =>
      LiftP Tryz.prog (Instr.alloc 39 true (.tuple #[])) (fun v9 w =>
      LiftU Tryz.prog (Instr.storeAt 39 v9 v42) (fun v__2 w =>
      CondP v43 (fun w =>
        LiftP Tryz.prog (Instr.loadAt 39 v9) (fun v45 w =>
        CallP Tryz.prog 19 #[v45] (fun v46 w =>
        LiftU Tryz.prog (Instr.storeAt 39 v6 v46) (fun v__3 w =>
        RetC Tryz.prog v6 39 (fun x_2 => R (.tuple #[x_2, (Go.Value.int Go.IntKind.i64 0)]) w) w) w) w) w) (fun w =>
        J [] w) w) w) w) w) w) w) w) w) w) w) w) w) w) w) (fun w =>
      J [] w) w) w) w) w) w) w) (fun vs w =>   -- []
  LiftP Tryz.prog (Instr.build 39 #[]) (fun v47 w =>
  LiftU Tryz.prog (Instr.storeAt 39 v6 v47) (fun v__4 w =>
  RetC Tryz.prog v6 39 (fun x_3 => R (.tuple #[x_3, (Go.Value.int Go.IntKind.i64 7)]) w) w) w) w) w) w) w) w) w) w) w) w) w
theorem S13.calls (a0 a1 a2 : Value) (R : Value → World → Prop) (w : World) (h : S13 a0 a1 a2 R w) : Calls Tryz.prog 13 #[a0, a1, a2] w fun e w' => ∃ v, e = .returned v ∧ R v w' :=
  calls_of_tr (n := 48) (c := bodyOf Tryz.f13) (.two .leaf (.two (.two .leaf (.two (.two .leaf .leaf) .leaf)) (.join [] (.two .leaf (.two .leaf (.two (.two (.two .leaf (.two (.two .leaf .leaf) .leaf)) (.two .leaf (.two .leaf (.two (.two .leaf .leaf) .leaf)))) .leaf))) (.two .leaf .leaf)))) Tryz.func13 (by kernel_rfl) Tryz.ntmps13 (by kernel_rfl) (by kernel_rfl) [a0, a1, a2] (by kernel_rfl) (of_eq_ (by kernel_rfl) h)

/-- (*shelfmark/once.Table).Floor -/
def S14 (a0 a1 : Value) (R : Value → World → Prop) (w : World) : Prop :=
  NextP Tryz.prog (nilChk a0) (fun v7 w =>
  LiftP Tryz.prog (Instr.fieldAt 55 v7 0) (fun v8 w =>
  LiftP Tryz.prog (Instr.loadAt 53 v8) (fun v9 w =>
  LiftP Tryz.prog (Instr.lookup 53 v9 a1 false) (fun v11 w =>
  LiftP Tryz.prog (binS Go.BinOp.neq 58 (Go.Operand.tmp 12) (Go.Operand.const (Go.Value.pointer none)) v11 (Go.Value.pointer none)) (fun v13 w =>
  CondP v13 (fun w =>
    NextP Tryz.prog (nilChk v11) (fun v15 w =>
    LiftP Tryz.prog (Instr.fieldAt 63 v15 0) (fun v16 w =>
    LiftP Tryz.prog (Instr.loadAt 3 v16) (fun v17 w =>
    R v17 w) w) w) w) (fun w =>
    R (Go.Value.int Go.IntKind.i64 0) w) w) w) w) w) w) w
theorem S14.calls (a0 a1 : Value) (R : Value → World → Prop) (w : World) (h : S14 a0 a1 R w) : Calls Tryz.prog 14 #[a0, a1] w fun e w' => ∃ v, e = .returned v ∧ R v w' :=
  calls_of_tr (n := 18) (c := bodyOf Tryz.f14) (.two .leaf (.two (.two .leaf (.two .leaf (.two (.two .leaf .leaf) .leaf))) (.two .leaf .leaf))) Tryz.func14 (by kernel_rfl) Tryz.ntmps14 (by kernel_rfl) (by kernel_rfl) [a0, a1] (by kernel_rfl) (of_eq_ (by kernel_rfl) h)

/-- shelfmark/shelfmarkref03.Light -/
def S15 (a0 a1 : Value) (R : Value → World → Prop) (w : World) : Prop :=
  LoopP (fun J vs w =>   -- [5, 6]
    NextP Tryz.prog (builtin Go.Builtin.len #[35] 3 #[false] #[a0]) (fun v9 w =>
    LiftP Tryz.prog (binS Go.BinOp.lss 3 (Go.Operand.tmp 7) (Go.Operand.tmp 9) (vs.tail.headD undef) v9) (fun v10 w =>
    CondP v10 (fun w =>
      LiftP Tryz.prog (Instr.indexAt 35 a0 (vs.tail.headD undef)) (fun v15 w =>
    LiftP Tryz.prog (Instr.fieldAt 91 v15 2) (fun v16 w =>
    LiftP Tryz.prog (Instr.loadAt 9 v16) (fun v17 w =>
    NextP Tryz.prog (builtin Go.Builtin.len #[9] 3 #[false] #[v17]) (fun v18 w =>
    LiftP Tryz.prog (binS Go.BinOp.gtr 3 (Go.Operand.tmp 18) (Go.Operand.tmp 19) v18 a1) (fun v20 w =>
    GuardP v20 false (fun K w => K (vs.tail.headD undef) w) (fun v22 w =>
    GuardP v20 false (fun K w => K a1 w) (fun v23 w =>
    GuardP v20 false (fun K w => LiftP Tryz.prog (binS Go.BinOp.gtr 3 (Go.Operand.tmp 22) (Go.Operand.tmp 23) v22 v23) K w) (fun v24 w =>
    PickP v20 (Go.Value.bool true) v24 (fun v25 w =>
    CondP v25 (fun w =>
      R (Go.Value.bool false) w) (fun w =>
      LiftP Tryz.prog (Instr.indexAt 35 a0 (vs.tail.headD undef)) (fun v29 w =>
    LiftP Tryz.prog (Instr.fieldAt 91 v29 2) (fun v30 w =>
    LiftP Tryz.prog (Instr.loadAt 9 v30) (fun v31 w =>
    NextP Tryz.prog (builtin Go.Builtin.len #[9] 3 #[false] #[v31]) (fun v32 w =>
    LiftP Tryz.prog (binS Go.BinOp.add 3 (Go.Operand.tmp 26) (Go.Operand.tmp 32) (vs.headD undef) v32) (fun v33 w =>
    LiftP Tryz.prog (binS Go.BinOp.gtr 3 (Go.Operand.tmp 34) (Go.Operand.tmp 35) v33 a1) (fun v36 w =>
    CondP v36 (fun w =>
      R (Go.Value.bool false) w) (fun w =>
      LiftP Tryz.prog (binS Go.BinOp.add 3 (Go.Operand.tmp 11) (Go.Operand.const (Go.Value.int Go.IntKind.i64 1)) (vs.tail.headD undef) (Go.Value.int Go.IntKind.i64 1)) (fun v12 w =>
    J [v33, v12] w) w) w) w) w) w) w) w) w) w) w) w) w) w) w) w) w) w) w) (fun w =>
      R (Go.Value.bool true) w) w) w) w) [(Go.Value.int Go.IntKind.i64 0), (Go.Value.int Go.IntKind.i64 0)] w
theorem S15.calls (a0 a1 : Value) (R : Value → World → Prop) (w : World) (h : S15 a0 a1 R w) : Calls Tryz.prog 15 #[a0, a1] w fun e w' => ∃ v, e = .returned v ∧ R v w' :=
  calls_of_tr (n := 37) (c := bodyOf Tryz.f15) (.two .leaf (.two .leaf (.two (.two .leaf (.one (.loop [5, 6] (.two (.two .leaf (.two .leaf .leaf)) (.two (.one (.two (.two .leaf (.two (.two .leaf .leaf) .leaf)) (.two .leaf (.two .leaf (.two (.two .leaf .leaf) .leaf))))) .leaf))))) (.two .leaf .leaf)))) Tryz.func15 (by kernel_rfl) Tryz.ntmps15 (by kernel_rfl) (by kernel_rfl) [a0, a1] (by kernel_rfl) (of_eq_ (by kernel_rfl) h)

/-- shelfmark/once.within -/
def S16 (a0 a1 : Value) (R : Value → World → Prop) (w : World) : Prop :=
  LiftP Tryz.prog (binS Go.BinOp.geq 3 (Go.Operand.tmp 5) (Go.Operand.tmp 6) a0 a1) (fun v7 w =>
  GuardP v7 true (fun K w => K a0 w) (fun v9 w =>
  GuardP v7 true (fun K w => LiftP Tryz.prog (binS Go.BinOp.leq 3 (Go.Operand.tmp 9) (Go.Operand.const (Go.Value.int Go.IntKind.i64 1099511627776)) v9 (Go.Value.int Go.IntKind.i64 1099511627776)) K w) (fun v10 w =>
  PickP v7 v10 (Go.Value.bool false) (fun v11 w =>
  R v11 w) w) w) w) w
theorem S16.calls (a0 a1 : Value) (R : Value → World → Prop) (w : World) (h : S16 a0 a1 R w) : Calls Tryz.prog 16 #[a0, a1] w fun e w' => ∃ v, e = .returned v ∧ R v w' :=
  calls_of_tr (n := 12) (c := bodyOf Tryz.f16) (.two .leaf (.two .leaf .leaf)) Tryz.func16 (by kernel_rfl) Tryz.ntmps16 (by kernel_rfl) (by kernel_rfl) [a0, a1] (by kernel_rfl) (of_eq_ (by kernel_rfl) h)

/-- (*shelfmark/once.Table).client -/
def S18 (a0 a1 : Value) (R : Value → World → Prop) (w : World) : Prop :=
  JoinP (fun J w =>
    NextP Tryz.prog (nilChk a0) (fun v6 w =>
    LiftP Tryz.prog (Instr.fieldAt 55 v6 0) (fun v7 w =>
    LiftP Tryz.prog (Instr.loadAt 53 v7) (fun v8 w =>
    LiftP Tryz.prog (Instr.lookup 53 v8 a1 false) (fun v10 w =>
    LiftP Tryz.prog (binS Go.BinOp.eql 58 (Go.Operand.tmp 10) (Go.Operand.const (Go.Value.pointer none)) v10 (Go.Value.pointer none)) (fun v11 w =>
    CondP v11 (fun w =>
      NextP Tryz.prog (nilChk a0) (fun v13 w =>
      LiftP Tryz.prog (Instr.fieldAt 55 v13 0) (fun v14 w =>
      LiftP Tryz.prog (Instr.loadAt 53 v14) (fun v15 w =>
      LiftP Tryz.prog (Instr.makeMap 61 none) (fun v17 w =>
      LiftP Tryz.prog (Instr.build 63 #[(1, v17)]) (fun v18 w =>
      LiftP Tryz.prog (Instr.box 63 v18) (fun v19 w =>
      LiftU Tryz.prog (Instr.mapUpdate 53 v15 a1 v19) (fun v_ w =>
      J [] w) w) w) w) w) w) w) w) (fun w =>
      J [] w) w) w) w) w) w) w) (fun vs w =>   -- []
  NextP Tryz.prog (nilChk a0) (fun v21 w =>
  LiftP Tryz.prog (Instr.fieldAt 55 v21 0) (fun v22 w =>
  LiftP Tryz.prog (Instr.loadAt 53 v22) (fun v23 w =>
  LiftP Tryz.prog (Instr.lookup 53 v23 a1 false) (fun v25 w =>
  R v25 w) w) w) w) w) w
theorem S18.calls (a0 a1 : Value) (R : Value → World → Prop) (w : World) (h : S18 a0 a1 R w) : Calls Tryz.prog 18 #[a0, a1] w fun e w' => ∃ v, e = .returned v ∧ R v w' :=
  calls_of_tr (n := 26) (c := bodyOf Tryz.f18) (.two .leaf (.join [] (.two .leaf (.two .leaf .leaf)) (.two .leaf .leaf))) Tryz.func18 (by kernel_rfl) Tryz.ntmps18 (by kernel_rfl) (by kernel_rfl) [a0, a1] (by kernel_rfl) (of_eq_ (by kernel_rfl) h)

/-- shelfmark/once.copied -/
def S19 (a0 : Value) (R : Value → World → Prop) (w : World) : Prop :=
  LiftP Tryz.prog (Instr.box 39 a0) (fun v1 w =>
  LiftP Tryz.prog (Instr.alloc 39 true (.tuple #[])) (fun v2 w =>
  LiftP Tryz.prog (Instr.fieldAt 39 v1 2) (fun v3 w =>
  LiftP Tryz.prog (Instr.loadAt 36 v3) (fun v4 w =>
  CallP Tryz.prog 44 #[v4] (fun v5 w =>
  CallP Tryz.prog 43 #[v5] (fun v6 w =>
  LiftP Tryz.prog (Instr.fieldAt 39 v1 2) (fun v7 w =>
  LiftU Tryz.prog (Instr.storeAt 36 v7 v6) (fun v_ w =>
  LiftP Tryz.prog (Instr.fieldAt 39 v1 3) (fun v8 w =>
  LiftU Tryz.prog (Instr.storeAt 37 v8 (Go.Value.slice none 0 0)) (fun v__1 w =>
  LiftP Tryz.prog (Instr.loadAt 39 v1) (fun v9 w =>
  LiftU Tryz.prog (Instr.storeAt 39 v2 v9) (fun v__2 w =>
  RetC Tryz.prog v2 39 (fun x => R x w) w) w) w) w) w) w) w) w) w) w) w) w) w
theorem S19.calls (a0 : Value) (R : Value → World → Prop) (w : World) (h : S19 a0 R w) : Calls Tryz.prog 19 #[a0] w fun e w' => ∃ v, e = .returned v ∧ R v w' :=
  calls_of_tr (n := 10) (c := bodyOf Tryz.f19) (.two .leaf (.two .leaf (.two .leaf (.two .leaf .leaf)))) Tryz.func19 (by kernel_rfl) Tryz.ntmps19 (by kernel_rfl) (by kernel_rfl) [a0] (by kernel_rfl) (of_eq_ (by kernel_rfl) h)

/-- (*shelfmark/once.client).trim -/
def S20 (a0 : Value) (R : Value → World → Prop) (w : World) : Prop :=
  LiftP Tryz.prog (Instr.box 58 a0) (fun v1 w =>
  LiftP Tryz.prog (Instr.loadAt 58 v1) (fun v2 w =>
  NextP Tryz.prog (nilChk v2) (fun v3 w =>
  LiftP Tryz.prog (Instr.fieldAt 63 v3 1) (fun v4 w =>
  LiftP Tryz.prog (Instr.loadAt 61 v4) (fun v5 w =>
  LiftP Tryz.prog (Instr.makeFunc (Go.Fn.func 46) #[] #[v1]) (fun v6 w =>
  CallP Tryz.prog 45 #[v5, v6] (fun v7 w =>
  LoopP (fun J vs w =>   -- []
    LiftP Tryz.prog (Instr.loadAt 58 v1) (fun v8 w =>
    NextP Tryz.prog (nilChk v8) (fun v9 w =>
    LiftP Tryz.prog (Instr.fieldAt 63 v9 1) (fun v10 w =>
    LiftP Tryz.prog (Instr.loadAt 61 v10) (fun v11 w =>
    NextP Tryz.prog (builtin Go.Builtin.len #[61] 3 #[false] #[v11]) (fun v12 w =>
    LiftP Tryz.prog (binS Go.BinOp.gtr 3 (Go.Operand.tmp 12) (Go.Operand.const (Go.Value.int Go.IntKind.i64 4)) v12 (Go.Value.int Go.IntKind.i64 4)) (fun v13 w =>
    CondP v13 (fun w =>
      DrawP (fun S w =>
    YieldP Tryz.prog S (Instr.loadAt 58 v1) (fun v14 w =>
    YieldP Tryz.prog S (Instr.loadAt 58 v1) (fun v15 w =>
    YieldN Tryz.prog S (nilChk v15) (fun v16 w =>
    YieldP Tryz.prog S (Instr.fieldAt 63 v16 1) (fun v17 w =>
    YieldP Tryz.prog S (Instr.loadAt 61 v17) (fun v18 w =>
    ActP S (fun K w => CallP Tryz.prog 31 #[v18] K w) (fun S v19 w =>
    ActP S (fun K w => CallP Tryz.prog 48 #[v19] K w) (fun S v20 w =>
    ActP S (fun K w => CallP Tryz.prog 47 #[v20] K w) (fun S v21 w =>
    YieldN Tryz.prog S (nilChk v14) (fun v22 w =>
    YieldP Tryz.prog S (Instr.fieldAt 63 v22 0) (fun v23 w =>
    LiftU Tryz.prog (Instr.storeAt 3 v23 v21) (fun v_ w =>
    DrawP (fun S w =>
    YieldP Tryz.prog S (Instr.loadAt 58 v1) (fun v24 w =>
    YieldN Tryz.prog S (nilChk v24) (fun v25 w =>
    YieldP Tryz.prog S (Instr.fieldAt 63 v25 1) (fun v26 w =>
    YieldP Tryz.prog S (Instr.loadAt 61 v26) (fun v27 w =>
    YieldP Tryz.prog S (Instr.loadAt 58 v1) (fun v28 w =>
    YieldN Tryz.prog S (nilChk v28) (fun v29 w =>
    YieldP Tryz.prog S (Instr.fieldAt 63 v29 0) (fun v30 w =>
    YieldP Tryz.prog S (Instr.loadAt 3 v30) (fun v31 w =>
    NextP Tryz.prog (builtin Go.Builtin.delete #[61, 3] 0 #[false, false] #[v27, v31]) (fun v__1 w =>
    J [] w) w) w) w) w) w) w) w) w) w) w) w) w) w) w) w) w) w) w) w) w) w) w) (fun w =>
      R (.tuple #[]) w) w) w) w) w) w) w) w) [] w) w) w) w) w) w) w) w
theorem S20.calls (a0 : Value) (R : Value → World → Prop) (w : World) (h : S20 a0 R w) : Calls Tryz.prog 20 #[a0] w fun e w' => ∃ v, e = .returned v ∧ R v w' :=
  calls_of_tr (n := 32) (c := bodyOf Tryz.f20) (.two .leaf (.two .leaf (.one (.loop [] (.two (.two .leaf (.two .leaf .leaf)) (.one (.two (.drawL [(true, 0), (true, 1), (true, 2), (true, 3), (true, 4), (false, 5), (false, 6), (false, 7), (true, 8), (true, 9)] 10) (.drawL [(true, 0), (true, 1), (true, 2), (true, 3), (true, 4), (true, 5), (true, 6), (true, 7)] 8)))))))) Tryz.func20 (by kernel_rfl) Tryz.ntmps20 (by kernel_rfl) (by kernel_rfl) [a0] (by kernel_rfl) (of_eq_ (by kernel_rfl) h)

/-- shelfmark/shelfmarkref17.bad -/
def S21 (a0 a1 : Value) (R : Value → World → Prop) (w : World) : Prop :=
  LiftP Tryz.prog (binS Go.BinOp.lss 3 (Go.Operand.tmp 5) (Go.Operand.const (Go.Value.int Go.IntKind.i64 0)) a0 (Go.Value.int Go.IntKind.i64 0)) (fun v6 w =>
  GuardP v6 false (fun K w => K a0 w) (fun v8 w =>
  GuardP v6 false (fun K w => LiftP Tryz.prog (binS Go.BinOp.gtr 3 (Go.Operand.tmp 8) (Go.Operand.const (Go.Value.int Go.IntKind.i64 1099511627776)) v8 (Go.Value.int Go.IntKind.i64 1099511627776)) K w) (fun v9 w =>
  PickP v6 (Go.Value.bool true) v9 (fun v10 w =>
  GuardP v10 false (fun K w => K a1 w) (fun v12 w =>
  GuardP v10 false (fun K w => LiftP Tryz.prog (binS Go.BinOp.lss 3 (Go.Operand.tmp 12) (Go.Operand.const (Go.Value.int Go.IntKind.i64 1)) v12 (Go.Value.int Go.IntKind.i64 1)) K w) (fun v13 w =>
  PickP v10 (Go.Value.bool true) v13 (fun v14 w =>
  GuardP v14 false (fun K w => K a1 w) (fun v16 w =>
  GuardP v14 false (fun K w => LiftP Tryz.prog (binS Go.BinOp.gtr 3 (Go.Operand.tmp 16) (Go.Operand.const (Go.Value.int Go.IntKind.i64 1099511627776)) v16 (Go.Value.int Go.IntKind.i64 1099511627776)) K w) (fun v17 w =>
  PickP v14 (Go.Value.bool true) v17 (fun v18 w =>
  R v18 w) w) w) w) w) w) w) w) w) w) w
theorem S21.calls (a0 a1 : Value) (R : Value → World → Prop) (w : World) (h : S21 a0 a1 R w) : Calls Tryz.prog 21 #[a0, a1] w fun e w' => ∃ v, e = .returned v ∧ R v w' :=
  calls_of_tr (n := 19) (c := bodyOf Tryz.f21) (.two .leaf (.two .leaf .leaf)) Tryz.func21 (by kernel_rfl) Tryz.ntmps21 (by kernel_rfl) (by kernel_rfl) [a0, a1] (by kernel_rfl) (of_eq_ (by kernel_rfl) h)

/-- shelfmark/shelfmarkref04.Check -/
def S22 (a0 : Value) (R : Value → World → Prop) (w : World) : Prop :=
  NextP Tryz.prog (builtin Go.Builtin.len #[35] 3 #[false] #[a0]) (fun v4 w =>
  LiftP Tryz.prog (binS Go.BinOp.eql 3 (Go.Operand.tmp 4) (Go.Operand.const (Go.Value.int Go.IntKind.i64 0)) v4 (Go.Value.int Go.IntKind.i64 0)) (fun v5 w =>
  CondP v5 (fun w =>
    R (Go.Value.int Go.IntKind.i64 1) w) (fun w =>
    CallP Tryz.prog 49 #[a0] (fun v7 w =>
  R v7 w) w) w) w) w
theorem S22.calls (a0 : Value) (R : Value → World → Prop) (w : World) (h : S22 a0 R w) : Calls Tryz.prog 22 #[a0] w fun e w' => ∃ v, e = .returned v ∧ R v w' :=
  calls_of_tr (n := 8) (c := bodyOf Tryz.f22) (.two .leaf (.two (.two .leaf (.two (.two .leaf .leaf) .leaf)) (.two .leaf .leaf))) Tryz.func22 (by kernel_rfl) Tryz.ntmps22 (by kernel_rfl) (by kernel_rfl) [a0] (by kernel_rfl) (of_eq_ (by kernel_rfl) h)

/-- (*shelfmark/shelfmarkref17.Table).Look -/
def S23 (a0 a1 a2 : Value) (R : Value → World → Prop) (w : World) : Prop :=
  LiftP Tryz.prog (Instr.alloc 39 true (.tuple #[])) (fun v6 w =>
  CallP Tryz.prog 21 #[a1, a2] (fun v11 w =>
  CondP v11 (fun w =>
    LiftP Tryz.prog (Instr.build 39 #[]) (fun v12 w =>
    LiftU Tryz.prog (Instr.storeAt 39 v6 v12) (fun v_ w =>
    RetC Tryz.prog v6 39 (fun x => R (.tuple #[x, (Go.Value.int Go.IntKind.i64 1)]) w) w) w) w) (fun w =>
    CallP Tryz.prog 35 #[a0, a1] (fun v16 w =>
  LiftP Tryz.prog (binS Go.BinOp.leq 3 (Go.Operand.tmp 13) (Go.Operand.tmp 16) a2 v16) (fun v17 w =>
  CondP v17 (fun w =>
    LiftP Tryz.prog (Instr.build 39 #[]) (fun v18 w =>
    LiftU Tryz.prog (Instr.storeAt 39 v6 v18) (fun v__1 w =>
    RetC Tryz.prog v6 39 (fun x_1 => R (.tuple #[x_1, (Go.Value.int Go.IntKind.i64 12)]) w) w) w) w) (fun w =>
    LoopP (fun J vs w =>   -- [8]
    NextP Tryz.prog (nilChk a0) (fun v21 w =>
    LiftP Tryz.prog (Instr.fieldAt 32 v21 0) (fun v22 w =>
    LiftP Tryz.prog (Instr.loadAt 29 v22) (fun v23 w =>
    NextP Tryz.prog (builtin Go.Builtin.len #[29] 3 #[false] #[v23]) (fun v24 w =>
    LiftP Tryz.prog (binS Go.BinOp.lss 3 (Go.Operand.tmp 19) (Go.Operand.tmp 24) (vs.headD undef) v24) (fun v25 w =>
    CondP v25 (fun w =>
      NextP Tryz.prog (nilChk a0) (fun v29 w =>
    LiftP Tryz.prog (Instr.fieldAt 32 v29 0) (fun v30 w =>
    LiftP Tryz.prog (Instr.loadAt 29 v30) (fun v31 w =>
    LiftP Tryz.prog (Instr.indexAt 29 v31 (vs.headD undef)) (fun v33 w =>
    LiftP Tryz.prog (Instr.fieldAt 67 v33 0) (fun v34 w =>
    LiftP Tryz.prog (Instr.loadAt 3 v34) (fun v35 w =>
    LiftP Tryz.prog (binS Go.BinOp.eql 3 (Go.Operand.tmp 35) (Go.Operand.tmp 36) v35 a1) (fun v37 w =>
    GuardP v37 true (fun K w => K a0 w) (fun v39 w =>
    GuardP v37 true (fun K w => NextP Tryz.prog (nilChk v39) K w) (fun v40 w =>
    GuardP v37 true (fun K w => LiftP Tryz.prog (Instr.fieldAt 32 v40 0) K w) (fun v41 w =>
    GuardP v37 true (fun K w => LiftP Tryz.prog (Instr.loadAt 29 v41) K w) (fun v42 w =>
    GuardP v37 true (fun K w => K (vs.headD undef) w) (fun v43 w =>
    GuardP v37 true (fun K w => LiftP Tryz.prog (Instr.indexAt 29 v42 v43) K w) (fun v44 w =>
    GuardP v37 true (fun K w => LiftP Tryz.prog (Instr.fieldAt 67 v44 1) K w) (fun v45 w =>
    GuardP v37 true (fun K w => LiftP Tryz.prog (Instr.loadAt 3 v45) K w) (fun v46 w =>
    GuardP v37 true (fun K w => K a2 w) (fun v47 w =>
    GuardP v37 true (fun K w => LiftP Tryz.prog (binS Go.BinOp.eql 3 (Go.Operand.tmp 46) (Go.Operand.tmp 47) v46 v47) K w) (fun v48 w =>
    PickP v37 v48 (Go.Value.bool false) (fun v49 w =>
    CondP v49 (fun w =>
      NextP Tryz.prog (nilChk a0) (fun v51 w =>
      LiftP Tryz.prog (Instr.fieldAt 32 v51 0) (fun v52 w =>
      LiftP Tryz.prog (Instr.loadAt 29 v52) (fun v53 w =>
      LiftP Tryz.prog (Instr.indexAt 29 v53 (vs.headD undef)) (fun v55 w =>
      LiftP Tryz.prog (Instr.fieldAt 67 v55 2) (fun v56 w =>
      LiftP Tryz.prog (Instr.loadAt 39 v56) (fun v57 w =>
      LiftU Tryz.prog (Instr.storeAt 39 v6 v57) (fun v__2 w =>
      RetC Tryz.prog v6 39 (fun x_2 => R (.tuple #[x_2, (Go.Value.int Go.IntKind.i64 0)]) w) w) w) w) w) w) w) w) w) (fun w =>
      LiftP Tryz.prog (binS Go.BinOp.add 3 (Go.Operand.tmp 26) (Go.Operand.const (Go.Value.int Go.IntKind.i64 1)) (vs.headD undef) (Go.Value.int Go.IntKind.i64 1)) (fun v27 w =>
    J [v27] w) w) w) w) w) w) w) w) w) w) w) w) w) w) w) w) w) w) w) w) w) (fun w =>
      LiftP Tryz.prog (Instr.build 39 #[]) (fun v58 w =>
  LiftU Tryz.prog (Instr.storeAt 39 v6 v58) (fun v__3 w =>
  RetC Tryz.prog v6 39 (fun x_3 => R (.tuple #[x_3, (Go.Value.int Go.IntKind.i64 7)]) w) w) w) w) w) w) w) w) w) w) [(Go.Value.int Go.IntKind.i64 0)] w) w) w) w) w) w) w
theorem S23.calls (a0 a1 a2 : Value) (R : Value → World → Prop) (w : World) (h : S23 a0 a1 a2 R w) : Calls Tryz.prog 23 #[a0, a1, a2] w fun e w' => ∃ v, e = .returned v ∧ R v w' :=
  calls_of_tr (n := 59) (c := bodyOf Tryz.f23) (.two .leaf (.two (.two .leaf (.two (.two .leaf .leaf) .leaf)) (.two (.two .leaf (.two (.two .leaf .leaf) .leaf)) (.two (.two .leaf (.one (.loop [8] (.two (.two .leaf (.two .leaf .leaf)) (.two (.one (.two .leaf (.two (.two .leaf .leaf) .leaf))) .leaf))))) (.two .leaf .leaf))))) Tryz.func23 (by kernel_rfl) Tryz.ntmps23 (by kernel_rfl) (by kernel_rfl) [a0, a1, a2] (by kernel_rfl) (of_eq_ (by kernel_rfl) h)

/-- (*shelfmark/shelfmarkref17.Table).put -/
def S24 (a0 a1 : Value) (R : Value → World → Prop) (w : World) : Prop :=
  LiftP Tryz.prog (Instr.box 67 a1) (fun v3 w =>
  LoopP (fun J vs w =>   -- [4, 5]
    DrawP (fun S w =>
    YieldN Tryz.prog S (nilChk a0) (fun v9 w =>
    YieldP Tryz.prog S (Instr.fieldAt 32 v9 0) (fun v10 w =>
    YieldP Tryz.prog S (Instr.loadAt 29 v10) (fun v11 w =>
    YieldN Tryz.prog S (builtin Go.Builtin.len #[29] 3 #[false] #[v11]) (fun v12 w =>
    YieldP Tryz.prog S (binS Go.BinOp.lss 3 (Go.Operand.tmp 7) (Go.Operand.tmp 12) (vs.tail.headD undef) v12) (fun v13 w =>
    GuardP v13 true (fun K w => K a0 w) (fun v15 w =>
    GuardP v13 true (fun K w => YieldN Tryz.prog S (nilChk v15) K w) (fun v16 w =>
    GuardP v13 true (fun K w => YieldP Tryz.prog S (Instr.fieldAt 32 v16 0) K w) (fun v17 w =>
    GuardP v13 true (fun K w => YieldP Tryz.prog S (Instr.loadAt 29 v17) K w) (fun v18 w =>
    GuardP v13 true (fun K w => K (vs.tail.headD undef) w) (fun v19 w =>
    GuardP v13 true (fun K w => YieldP Tryz.prog S (Instr.indexAt 29 v18 v19) K w) (fun v20 w =>
    GuardP v13 true (fun K w => YieldP Tryz.prog S (Instr.fieldAt 67 v20 0) K w) (fun v21 w =>
    GuardP v13 true (fun K w => YieldP Tryz.prog S (Instr.loadAt 3 v21) K w) (fun v22 w =>
    GuardP v13 true (fun K w => YieldP Tryz.prog S (Instr.fieldAt 67 v3 0) K w) (fun v23 w =>
    GuardP v13 true (fun K w => YieldP Tryz.prog S (Instr.loadAt 3 v23) K w) (fun v24 w =>
    GuardP v13 true (fun K w => YieldP Tryz.prog S (binS Go.BinOp.lss 3 (Go.Operand.tmp 22) (Go.Operand.tmp 24) v22 v24) K w) (fun v25 w =>
    GuardP v13 true (fun K w => K v25 w) (fun v26 w =>
    GuardP v26 false (fun K w => K a0 w) (fun v27 w =>
    GuardP v26 false (fun K w => YieldN Tryz.prog S (nilChk v27) K w) (fun v28 w =>
    GuardP v26 false (fun K w => YieldP Tryz.prog S (Instr.fieldAt 32 v28 0) K w) (fun v29 w =>
    GuardP v26 false (fun K w => YieldP Tryz.prog S (Instr.loadAt 29 v29) K w) (fun v30 w =>
    GuardP v26 false (fun K w => K (vs.tail.headD undef) w) (fun v31 w =>
    GuardP v26 false (fun K w => YieldP Tryz.prog S (Instr.indexAt 29 v30 v31) K w) (fun v32 w =>
    GuardP v26 false (fun K w => YieldP Tryz.prog S (Instr.fieldAt 67 v32 0) K w) (fun v33 w =>
    GuardP v26 false (fun K w => YieldP Tryz.prog S (Instr.loadAt 3 v33) K w) (fun v34 w =>
    GuardP v26 false (fun K w => YieldP Tryz.prog S (Instr.fieldAt 67 v3 0) K w) (fun v35 w =>
    GuardP v26 false (fun K w => YieldP Tryz.prog S (Instr.loadAt 3 v35) K w) (fun v36 w =>
    GuardP v26 false (fun K w => YieldP Tryz.prog S (binS Go.BinOp.eql 3 (Go.Operand.tmp 34) (Go.Operand.tmp 36) v34 v36) K w) (fun v37 w =>
    GuardP v26 false (fun K w => K v37 w) (fun v38 w =>
    GuardP v38 true (fun K w => K a0 w) (fun v39 w =>
    GuardP v38 true (fun K w => YieldN Tryz.prog S (nilChk v39) K w) (fun v40 w =>
    GuardP v38 true (fun K w => YieldP Tryz.prog S (Instr.fieldAt 32 v40 0) K w) (fun v41 w =>
    GuardP v38 true (fun K w => YieldP Tryz.prog S (Instr.loadAt 29 v41) K w) (fun v42 w =>
    GuardP v38 true (fun K w => K (vs.tail.headD undef) w) (fun v43 w =>
    GuardP v38 true (fun K w => YieldP Tryz.prog S (Instr.indexAt 29 v42 v43) K w) (fun v44 w =>
    GuardP v38 true (fun K w => YieldP Tryz.prog S (Instr.fieldAt 67 v44 1) K w) (fun v45 w =>
    GuardP v38 true (fun K w => YieldP Tryz.prog S (Instr.loadAt 3 v45) K w) (fun v46 w =>
    GuardP v38 true (fun K w => YieldP Tryz.prog S (Instr.fieldAt 67 v3 1) K w) (fun v47 w =>
    GuardP v38 true (fun K w => YieldP Tryz.prog S (Instr.loadAt 3 v47) K w) (fun v48 w =>
    GuardP v38 true (fun K w => YieldP Tryz.prog S (binS Go.BinOp.lss 3 (Go.Operand.tmp 46) (Go.Operand.tmp 48) v46 v48) K w) (fun v49 w =>
    GuardP v26 false (fun K w => PickP v38 v49 (Go.Value.bool false) K w) (fun v50 w =>
    GuardP v13 true (fun K w => PickP v26 (Go.Value.bool true) v50 K w) (fun v51 w =>
    PickP v13 v51 (Go.Value.bool false) (fun v52 w =>
    CondP v52 (fun w =>
      NextP Tryz.prog (nilChk a0) (fun v55 w =>
    LiftP Tryz.prog (Instr.fieldAt 32 v55 0) (fun v56 w =>
    LiftP Tryz.prog (Instr.loadAt 29 v56) (fun v57 w =>
    LiftP Tryz.prog (Instr.indexAt 29 v57 (vs.tail.headD undef)) (fun v59 w =>
    LiftP Tryz.prog (Instr.loadAt 67 v59) (fun v60 w =>
    LiftP Tryz.prog (Instr.buildSlice 29 1 #[(0, v60)]) (fun v61 w =>
    NextP Tryz.prog (builtin Go.Builtin.append #[29, 29] 29 #[false, false] #[(vs.headD undef), v61]) (fun v62 w =>
    LiftP Tryz.prog (binS Go.BinOp.add 3 (Go.Operand.tmp 63) (Go.Operand.const (Go.Value.int Go.IntKind.i64 1)) (vs.tail.headD undef) (Go.Value.int Go.IntKind.i64 1)) (fun v64 w =>
    J [v62, v64] w) w) w) w) w) w) w) w) w) (fun w =>
      LiftP Tryz.prog (Instr.loadAt 67 v3) (fun v66 w =>
  LiftP Tryz.prog (Instr.buildSlice 29 1 #[(0, v66)]) (fun v67 w =>
  NextP Tryz.prog (builtin Go.Builtin.append #[29, 29] 29 #[false, false] #[(vs.headD undef), v67]) (fun v68 w =>
  NextP Tryz.prog (nilChk a0) (fun v72 w =>
  LiftP Tryz.prog (Instr.fieldAt 32 v72 0) (fun v73 w =>
  LiftP Tryz.prog (Instr.loadAt 29 v73) (fun v74 w =>
  LiftP Tryz.prog (Instr.sliceAt 29 v74 (some (vs.tail.headD undef)) none none) (fun v76 w =>
  NextP Tryz.prog (builtin Go.Builtin.append #[29, 29] 29 #[false, false] #[v68, v76]) (fun v77 w =>
  NextP Tryz.prog (nilChk a0) (fun v78 w =>
  LiftP Tryz.prog (Instr.fieldAt 32 v78 0) (fun v79 w =>
  LiftU Tryz.prog (Instr.storeAt 29 v79 v77) (fun v_ w =>
  LiftP Tryz.prog (Instr.fieldAt 67 v3 0) (fun v81 w =>
  LiftP Tryz.prog (Instr.loadAt 3 v81) (fun v82 w =>
  CallP Tryz.prog 38 #[a0, v82] (fun v83 w =>
  NextP Tryz.prog (builtin Go.Builtin.len #[74] 3 #[false] #[v83]) (fun v85 w =>
  LiftP Tryz.prog (binS Go.BinOp.gtr 3 (Go.Operand.tmp 85) (Go.Operand.const (Go.Value.int Go.IntKind.i64 4)) v85 (Go.Value.int Go.IntKind.i64 4)) (fun v86 w =>
  CondP v86 (fun w =>
    DrawP (fun S w =>
    YieldP Tryz.prog S (Instr.fieldAt 67 v3 0) (fun v88 w =>
    YieldP Tryz.prog S (Instr.loadAt 3 v88) (fun v89 w =>
    YieldN Tryz.prog S (builtin Go.Builtin.len #[74] 3 #[false] #[v83]) (fun v92 w =>
    YieldP Tryz.prog S (binS Go.BinOp.sub 3 (Go.Operand.tmp 92) (Go.Operand.const (Go.Value.int Go.IntKind.i64 5)) v92 (Go.Value.int Go.IntKind.i64 5)) (fun v93 w =>
    YieldP Tryz.prog S (Instr.indexAt 74 v83 v93) (fun v94 w =>
    YieldP Tryz.prog S (Instr.loadAt 3 v94) (fun v95 w =>
    CallP Tryz.prog 50 #[a0, v89, v95] (fun v96 w =>
    R (.tuple #[]) w) w) w) w) w) w) w) w) w) (fun w =>
    R (.tuple #[]) w) w) w) w) w) w) w) w) w) w) w) w) w) w) w) w) w) w) w) w) w) w) w) w) w) w) w) w) w) w) w) w) w) w) w) w) w) w) w) w) w) w) w) w) w) w) w) w) w) w) w) w) w) w) w) w) w) w) w) w) w) w) w) [(Go.Value.slice none 0 0), (Go.Value.int Go.IntKind.i64 0)] w) w
theorem S24.calls (a0 a1 : Value) (R : Value → World → Prop) (w : World) (h : S24 a0 a1 R w) : Calls Tryz.prog 24 #[a0, a1] w fun e w' => ∃ v, e = .returned v ∧ R v w' :=
  calls_of_tr (n := 97) (c := bodyOf Tryz.f24) (.two .leaf (.two .leaf (.two .leaf (.two (.one (.loop [4, 5] (.two (.two (.draw [(true, 0), (true, 1), (true, 2), (true, 3), (true, 4), (true, 5), (true, 6), (true, 7), (true, 8), (true, 9), (true, 10), (true, 11), (true, 12), (true, 13), (true, 14), (true, 15), (true, 16), (true, 17), (true, 18), (true, 19), (true, 20), (true, 21), (true, 22), (true, 23), (true, 24), (true, 25), (true, 26), (true, 27), (true, 28), (true, 29), (true, 30), (true, 31), (true, 32), (true, 33), (true, 34), (true, 35), (true, 36), (true, 37), (true, 38), (true, 39), (true, 40), (true, 41), (true, 42), (true, 43), (true, 44), (true, 45)]) (.two .leaf .leaf)) (.one (.two .leaf .leaf))))) (.two .leaf (.two .leaf (.two .leaf (.two .leaf (.two (.drawL [(true, 0), (true, 1), (true, 2), (true, 3), (true, 4), (true, 5), (true, 6), (true, 7), (true, 8)] 9) .leaf))))))))) Tryz.func24 (by kernel_rfl) Tryz.ntmps24 (by kernel_rfl) (by kernel_rfl) [a0, a1] (by kernel_rfl) (of_eq_ (by kernel_rfl) h)

/-- (*shelfmark/once.reader).num -/
def S25 (a0 a1 : Value) (R : Value → World → Prop) (w : World) : Prop :=
  NextP Tryz.prog (nilChk a0) (fun v9 w =>
  LiftP Tryz.prog (Instr.fieldAt 71 v9 2) (fun v10 w =>
  LiftP Tryz.prog (Instr.loadAt 4 v10) (fun v11 w =>
  CondP v11 (fun w =>
    R (Go.Value.int Go.IntKind.i64 0) w) (fun w =>
    DrawP (fun S w =>
  YieldN Tryz.prog S (nilChk a0) (fun v14 w =>
  YieldP Tryz.prog S (Instr.fieldAt 71 v14 0) (fun v15 w =>
  YieldP Tryz.prog S (Instr.loadAt 69 v15) (fun v16 w =>
  YieldN Tryz.prog S (nilChk a0) (fun v18 w =>
  YieldP Tryz.prog S (Instr.fieldAt 71 v18 1) (fun v19 w =>
  YieldP Tryz.prog S (Instr.loadAt 3 v19) (fun v20 w =>
  ActP S (fun K w => CallP Tryz.prog 51 #[v16, v20] K w) (fun S v21 w =>
  YieldP Tryz.prog S (Instr.extract v21 0) (fun v22 w =>
  YieldP Tryz.prog S (Instr.extract v21 1) (fun v23 w =>
  YieldP Tryz.prog S (Instr.extract v21 2) (fun v24 w =>
  LiftP Tryz.prog (binS Go.BinOp.neq 34 (Go.Operand.tmp 28) (Go.Operand.const (Go.Value.int Go.IntKind.i64 0)) v24 (Go.Value.int Go.IntKind.i64 0)) (fun v29 w =>
  GuardP v29 false (fun K w => K v22 w) (fun v31 w =>
  GuardP v29 false (fun K w => K a1 w) (fun v32 w =>
  GuardP v29 false (fun K w => LiftP Tryz.prog (binS Go.BinOp.gtr 3 (Go.Operand.tmp 31) (Go.Operand.tmp 32) v31 v32) K w) (fun v33 w =>
  PickP v29 (Go.Value.bool true) v33 (fun v34 w =>
  NextP Tryz.prog (nilChk a0) (fun v35 w =>
  LiftP Tryz.prog (Instr.fieldAt 71 v35 1) (fun v36 w =>
  LiftU Tryz.prog (Instr.storeAt 3 v36 v23) (fun v_ w =>
  NextP Tryz.prog (nilChk a0) (fun v37 w =>
  LiftP Tryz.prog (Instr.fieldAt 71 v37 2) (fun v38 w =>
  LiftU Tryz.prog (Instr.storeAt 4 v38 v34) (fun v__1 w =>
  R v22 w) w) w) w) w) w) w) w) w) w) w) w) w) w) w) w) w) w) w) w) w) w) w) w) w) w) w
theorem S25.calls (a0 a1 : Value) (R : Value → World → Prop) (w : World) (h : S25 a0 a1 R w) : Calls Tryz.prog 25 #[a0, a1] w fun e w' => ∃ v, e = .returned v ∧ R v w' :=
  calls_of_tr (n := 40) (c := bodyOf Tryz.f25) (.two .leaf (.two (.two .leaf (.two (.two .leaf .leaf) .leaf)) (.two (.draw [(true, 0), (true, 1), (true, 2), (true, 3), (true, 4), (true, 5), (true, 6), (true, 7), (false, 8), (true, 9), (true, 10), (true, 11), (true, 12), (true, 13), (true, 14), (true, 15)]) (.two .leaf (.two .leaf .leaf))))) Tryz.func25 (by kernel_rfl) Tryz.ntmps25 (by kernel_rfl) (by kernel_rfl) [a0, a1] (by kernel_rfl) (of_eq_ (by kernel_rfl) h)

/-- (*shelfmark/once.reader).reply -/
def S26 (a0 : Value) (R : Value → World → Prop) (w : World) : Prop :=
  LiftP Tryz.prog (Instr.alloc 39 true (.tuple #[])) (fun v2 w =>
  CallP Tryz.prog 25 #[a0, (Go.Value.int Go.IntKind.i64 1099511627776)] (fun v8 w =>
  CallP Tryz.prog 25 #[a0, (Go.Value.int Go.IntKind.i64 1)] (fun v10 w =>
  LiftP Tryz.prog (binS Go.BinOp.eql 3 (Go.Operand.tmp 10) (Go.Operand.const (Go.Value.int Go.IntKind.i64 1)) v10 (Go.Value.int Go.IntKind.i64 1)) (fun v11 w =>
  CallP Tryz.prog 25 #[a0, (Go.Value.int Go.IntKind.i64 1099511627776)] (fun v13 w =>
  LiftP Tryz.prog (Instr.build 39 #[(0, v8), (1, v11), (4, v13)]) (fun v14 w =>
  LiftP Tryz.prog (Instr.alloc 39 true (.tuple #[])) (fun v3 w =>
  LiftU Tryz.prog (Instr.storeAt 39 v3 v14) (fun v_ w =>
  JoinP (fun J w =>
    CallP Tryz.prog 52 #[a0] (fun v16 w =>
    LiftP Tryz.prog (binS Go.BinOp.neq 9 (Go.Operand.tmp 17) (Go.Operand.const (Go.Value.string { data := #[] })) v16 (Go.Value.string { data := #[] })) (fun v18 w =>
    CondP v18 (fun w =>
      CallP Tryz.prog 53 #[v16] (fun v21 w =>
      LiftP Tryz.prog (Instr.extract v21 0) (fun v22 w =>
      LiftP Tryz.prog (Instr.extract v21 1) (fun v23 w =>
      NextP Tryz.prog (nilChk a0) (fun v27 w =>
      LiftP Tryz.prog (Instr.fieldAt 71 v27 2) (fun v28 w =>
      LiftP Tryz.prog (Instr.loadAt 4 v28) (fun v29 w =>
      GuardP v29 false (fun K w => K v23 w) (fun v31 w =>
      GuardP v29 false (fun K w => LiftP Tryz.prog (binS Go.BinOp.neq 34 (Go.Operand.tmp 31) (Go.Operand.const (Go.Value.int Go.IntKind.i64 0)) v31 (Go.Value.int Go.IntKind.i64 0)) K w) (fun v32 w =>
      PickP v29 (Go.Value.bool true) v32 (fun v33 w =>
      LiftP Tryz.prog (Instr.fieldAt 39 v3 2) (fun v34 w =>
      LiftU Tryz.prog (Instr.storeAt 36 v34 v22) (fun v__1 w =>
      NextP Tryz.prog (nilChk a0) (fun v35 w =>
      LiftP Tryz.prog (Instr.fieldAt 71 v35 2) (fun v36 w =>
      LiftU Tryz.prog (Instr.storeAt 4 v36 v33) (fun v__2 w =>
      J [] w) w) w) w) w) w) w) w) w) w) w) w) w) w) w) (fun w =>
      J [] w) w) w) w) (fun vs w =>   -- []
  LiftP Tryz.prog (Instr.loadAt 39 v3) (fun v37 w =>
  LiftU Tryz.prog (Instr.storeAt 39 v2 v37) (fun v__3 w =>
  RetC Tryz.prog v2 39 (fun x => R x w) w) w) w) w) w) w) w) w) w) w) w) w
theorem S26.calls (a0 : Value) (R : Value → World → Prop) (w : World) (h : S26 a0 R w) : Calls Tryz.prog 26 #[a0] w fun e w' => ∃ v, e = .returned v ∧ R v w' :=
  calls_of_tr (n := 38) (c := bodyOf Tryz.f26) (.two .leaf (.two .leaf (.join [] (.two .leaf (.two .leaf (.two (.two .leaf .leaf) .leaf))) (.two .leaf .leaf)))) Tryz.func26 (by kernel_rfl) Tryz.ntmps26 (by kernel_rfl) (by kernel_rfl) [a0] (by kernel_rfl) (of_eq_ (by kernel_rfl) h)

/-- shelfmark/pack.Num -/
def S27 (a0 : Value) (R : Value → World → Prop) (w : World) : Prop :=
  LiftP Tryz.prog (binS Go.BinOp.lss 3 (Go.Operand.tmp 4) (Go.Operand.const (Go.Value.int Go.IntKind.i64 0)) a0 (Go.Value.int Go.IntKind.i64 0)) (fun v5 w =>
  CondP v5 (fun w =>
    R (Go.Value.slice none 0 0) w) (fun w =>
    LoopP (fun J vs w =>   -- [0, 3]
    LiftP Tryz.prog (binS Go.BinOp.gtr 3 (Go.Operand.tmp 6) (Go.Operand.const (Go.Value.int Go.IntKind.i64 127)) (vs.headD undef) (Go.Value.int Go.IntKind.i64 127)) (fun v7 w =>
    CondP v7 (fun w =>
      LiftP Tryz.prog (convert 3 5 (vs.headD undef)) (fun v12 w =>
    LiftP Tryz.prog (binS Go.BinOp.or 5 (Go.Operand.tmp 12) (Go.Operand.const (Go.Value.int Go.IntKind.u8 128)) v12 (Go.Value.int Go.IntKind.u8 128)) (fun v13 w =>
    LiftP Tryz.prog (Instr.buildSlice 69 1 #[(0, v13)]) (fun v14 w =>
    NextP Tryz.prog (builtin Go.Builtin.append #[69, 69] 69 #[false, false] #[(vs.tail.headD undef), v14]) (fun v15 w =>
    LiftP Tryz.prog (binS Go.BinOp.shr 3 (Go.Operand.tmp 8) (Go.Operand.const (Go.Value.int Go.IntKind.u64 7)) (vs.headD undef) (Go.Value.int Go.IntKind.u64 7)) (fun v9 w =>
    J [v9, v15] w) w) w) w) w) w) (fun w =>
      LiftP Tryz.prog (convert 3 5 (vs.headD undef)) (fun v18 w =>
  LiftP Tryz.prog (Instr.buildSlice 69 1 #[(0, v18)]) (fun v19 w =>
  NextP Tryz.prog (builtin Go.Builtin.append #[69, 69] 69 #[false, false] #[(vs.tail.headD undef), v19]) (fun v20 w =>
  R v20 w) w) w) w) w) w) [a0, (Go.Value.slice none 0 0)] w) w) w
theorem S27.calls (a0 : Value) (R : Value → World → Prop) (w : World) (h : S27 a0 R w) : Calls Tryz.prog 27 #[a0] w fun e w' => ∃ v, e = .returned v ∧ R v w' :=
  calls_of_tr (n := 21) (c := bodyOf Tryz.f27) (.two .leaf (.two (.two .leaf (.two (.two .leaf .leaf) .leaf)) (.two .leaf (.two (.one (.loop [0, 3] (.two (.two .leaf (.two .leaf .leaf)) (.two (.one .leaf) .leaf)))) (.two .leaf .leaf))))) Tryz.func27 (by kernel_rfl) Tryz.ntmps27 (by kernel_rfl) (by kernel_rfl) [a0] (by kernel_rfl) (of_eq_ (by kernel_rfl) h)

/-- shelfmark/pack.Join -/
def S30 (a0 : Value) (R : Value → World → Prop) (w : World) : Prop :=
  CallP Tryz.prog 56 #[a0] (fun v4 w =>
  R v4 w) w
theorem S30.calls (a0 : Value) (R : Value → World → Prop) (w : World) (h : S30 a0 R w) : Calls Tryz.prog 30 #[a0] w fun e w' => ∃ v, e = .returned v ∧ R v w' :=
  calls_of_tr (n := 5) (c := bodyOf Tryz.f30) (.two .leaf (.two .leaf .leaf)) Tryz.func30 (by kernel_rfl) Tryz.ntmps30 (by kernel_rfl) (by kernel_rfl) [a0] (by kernel_rfl) (of_eq_ (by kernel_rfl) h)

/-- shelfmark/pack.Text -/
def S33 (a0 : Value) (R : Value → World → Prop) (w : World) : Prop :=
  NextP Tryz.prog (builtin Go.Builtin.len #[9] 3 #[false] #[a0]) (fun v4 w =>
  CallP Tryz.prog 27 #[v4] (fun v5 w =>
  NextP Tryz.prog (builtin Go.Builtin.append #[69, 9] 69 #[false, false] #[v5, a0]) (fun v7 w =>
  R v7 w) w) w) w
theorem S33.calls (a0 : Value) (R : Value → World → Prop) (w : World) (h : S33 a0 R w) : Calls Tryz.prog 33 #[a0] w fun e w' => ∃ v, e = .returned v ∧ R v w' :=
  calls_of_tr (n := 8) (c := bodyOf Tryz.f33) (.two .leaf (.two .leaf .leaf)) Tryz.func33 (by kernel_rfl) Tryz.ntmps33 (by kernel_rfl) (by kernel_rfl) [a0] (by kernel_rfl) (of_eq_ (by kernel_rfl) h)

/-- shelfmark/shelfmarkref05.SameReply -/
def S34 (a0 a1 : Value) (R : Value → World → Prop) (w : World) : Prop :=
  LiftP Tryz.prog (Instr.box 39 a0) (fun v2 w =>
  LiftP Tryz.prog (Instr.box 39 a1) (fun v3 w =>
  LiftP Tryz.prog (Instr.fieldAt 39 v2 0) (fun v5 w =>
  LiftP Tryz.prog (Instr.loadAt 34 v5) (fun v6 w =>
  LiftP Tryz.prog (Instr.fieldAt 39 v3 0) (fun v7 w =>
  LiftP Tryz.prog (Instr.loadAt 34 v7) (fun v8 w =>
  LiftP Tryz.prog (binS Go.BinOp.eql 34 (Go.Operand.tmp 6) (Go.Operand.tmp 8) v6 v8) (fun v9 w =>
  GuardP v9 true (fun K w => LiftP Tryz.prog (Instr.fieldAt 39 v2 1) K w) (fun v11 w =>
  GuardP v9 true (fun K w => LiftP Tryz.prog (Instr.loadAt 4 v11) K w) (fun v12 w =>
  GuardP v9 true (fun K w => LiftP Tryz.prog (Instr.fieldAt 39 v3 1) K w) (fun v13 w =>
  GuardP v9 true (fun K w => LiftP Tryz.prog (Instr.loadAt 4 v13) K w) (fun v14 w =>
  GuardP v9 true (fun K w => LiftP Tryz.prog (binS Go.BinOp.eql 4 (Go.Operand.tmp 12) (Go.Operand.tmp 14) v12 v14) K w) (fun v15 w =>
  PickP v9 v15 (Go.Value.bool false) (fun v16 w =>
  GuardP v16 true (fun K w => LiftP Tryz.prog (Instr.fieldAt 39 v2 4) K w) (fun v18 w =>
  GuardP v16 true (fun K w => LiftP Tryz.prog (Instr.loadAt 3 v18) K w) (fun v19 w =>
  GuardP v16 true (fun K w => LiftP Tryz.prog (Instr.fieldAt 39 v3 4) K w) (fun v20 w =>
  GuardP v16 true (fun K w => LiftP Tryz.prog (Instr.loadAt 3 v20) K w) (fun v21 w =>
  GuardP v16 true (fun K w => LiftP Tryz.prog (binS Go.BinOp.eql 3 (Go.Operand.tmp 19) (Go.Operand.tmp 21) v19 v21) K w) (fun v22 w =>
  PickP v16 v22 (Go.Value.bool false) (fun v23 w =>
  GuardP v23 true (fun K w => LiftP Tryz.prog (Instr.fieldAt 39 v2 2) K w) (fun v25 w =>
  GuardP v23 true (fun K w => LiftP Tryz.prog (Instr.loadAt 36 v25) K w) (fun v26 w =>
  GuardP v23 true (fun K w => LiftP Tryz.prog (Instr.fieldAt 39 v3 2) K w) (fun v27 w =>
  GuardP v23 true (fun K w => LiftP Tryz.prog (Instr.loadAt 36 v27) K w) (fun v28 w =>
  GuardP v23 true (fun K w => CallP Tryz.prog 59 #[v26, v28] K w) (fun v29 w =>
  PickP v23 v29 (Go.Value.bool false) (fun v30 w =>
  GuardP v30 true (fun K w => LiftP Tryz.prog (Instr.fieldAt 39 v2 3) K w) (fun v32 w =>
  GuardP v30 true (fun K w => LiftP Tryz.prog (Instr.loadAt 37 v32) K w) (fun v33 w =>
  GuardP v30 true (fun K w => LiftP Tryz.prog (Instr.fieldAt 39 v3 3) K w) (fun v34 w =>
  GuardP v30 true (fun K w => LiftP Tryz.prog (Instr.loadAt 37 v34) K w) (fun v35 w =>
  GuardP v30 true (fun K w => CallP Tryz.prog 60 #[v33, v35] K w) (fun v36 w =>
  PickP v30 v36 (Go.Value.bool false) (fun v37 w =>
  R v37 w) w) w) w) w) w) w) w) w) w) w) w) w) w) w) w) w) w) w) w) w) w) w) w) w) w) w) w) w) w) w) w
theorem S34.calls (a0 a1 : Value) (R : Value → World → Prop) (w : World) (h : S34 a0 a1 R w) : Calls Tryz.prog 34 #[a0, a1] w fun e w' => ∃ v, e = .returned v ∧ R v w' :=
  calls_of_tr (n := 38) (c := bodyOf Tryz.f34) (.two .leaf (.two .leaf .leaf)) Tryz.func34 (by kernel_rfl) Tryz.ntmps34 (by kernel_rfl) (by kernel_rfl) [a0, a1] (by kernel_rfl) (of_eq_ (by kernel_rfl) h)

/-- (*shelfmark/shelfmarkref17.Table).Floor -/
def S35 (a0 a1 : Value) (R : Value → World → Prop) (w : World) : Prop :=
  LoopP (fun J vs w =>   -- [5]
    NextP Tryz.prog (nilChk a0) (fun v8 w =>
    LiftP Tryz.prog (Instr.fieldAt 32 v8 1) (fun v9 w =>
    LiftP Tryz.prog (Instr.loadAt 30 v9) (fun v10 w =>
    NextP Tryz.prog (builtin Go.Builtin.len #[30] 3 #[false] #[v10]) (fun v11 w =>
    LiftP Tryz.prog (binS Go.BinOp.lss 3 (Go.Operand.tmp 6) (Go.Operand.tmp 11) (vs.headD undef) v11) (fun v12 w =>
    CondP v12 (fun w =>
      NextP Tryz.prog (nilChk a0) (fun v16 w =>
    LiftP Tryz.prog (Instr.fieldAt 32 v16 1) (fun v17 w =>
    LiftP Tryz.prog (Instr.loadAt 30 v17) (fun v18 w =>
    LiftP Tryz.prog (Instr.indexAt 30 v18 (vs.headD undef)) (fun v20 w =>
    LiftP Tryz.prog (Instr.fieldAt 88 v20 0) (fun v21 w =>
    LiftP Tryz.prog (Instr.loadAt 3 v21) (fun v22 w =>
    LiftP Tryz.prog (binS Go.BinOp.eql 3 (Go.Operand.tmp 22) (Go.Operand.tmp 23) v22 a1) (fun v24 w =>
    CondP v24 (fun w =>
      NextP Tryz.prog (nilChk a0) (fun v26 w =>
      LiftP Tryz.prog (Instr.fieldAt 32 v26 1) (fun v27 w =>
      LiftP Tryz.prog (Instr.loadAt 30 v27) (fun v28 w =>
      LiftP Tryz.prog (Instr.indexAt 30 v28 (vs.headD undef)) (fun v30 w =>
      LiftP Tryz.prog (Instr.fieldAt 88 v30 1) (fun v31 w =>
      LiftP Tryz.prog (Instr.loadAt 3 v31) (fun v32 w =>
      R v32 w) w) w) w) w) w) w) (fun w =>
      LiftP Tryz.prog (binS Go.BinOp.add 3 (Go.Operand.tmp 13) (Go.Operand.const (Go.Value.int Go.IntKind.i64 1)) (vs.headD undef) (Go.Value.int Go.IntKind.i64 1)) (fun v14 w =>
    J [v14] w) w) w) w) w) w) w) w) w) w) (fun w =>
      R (Go.Value.int Go.IntKind.i64 0) w) w) w) w) w) w) w) [(Go.Value.int Go.IntKind.i64 0)] w
theorem S35.calls (a0 a1 : Value) (R : Value → World → Prop) (w : World) (h : S35 a0 a1 R w) : Calls Tryz.prog 35 #[a0, a1] w fun e w' => ∃ v, e = .returned v ∧ R v w' :=
  calls_of_tr (n := 33) (c := bodyOf Tryz.f35) (.two .leaf (.two (.two .leaf (.one (.loop [5] (.two (.two .leaf (.two .leaf .leaf)) (.two (.one (.two .leaf (.two (.two .leaf .leaf) .leaf))) .leaf))))) (.two .leaf .leaf))) Tryz.func35 (by kernel_rfl) Tryz.ntmps35 (by kernel_rfl) (by kernel_rfl) [a0, a1] (by kernel_rfl) (of_eq_ (by kernel_rfl) h)

/-- shelfmark/shelfmarkref14.SameInts -/
def S36 (a0 a1 : Value) (R : Value → World → Prop) (w : World) : Prop :=
  NextP Tryz.prog (builtin Go.Builtin.len #[74] 3 #[false] #[a0]) (fun v7 w =>
  NextP Tryz.prog (builtin Go.Builtin.len #[74] 3 #[false] #[a1]) (fun v9 w =>
  LiftP Tryz.prog (binS Go.BinOp.neq 3 (Go.Operand.tmp 7) (Go.Operand.tmp 9) v7 v9) (fun v10 w =>
  CondP v10 (fun w =>
    R (Go.Value.bool false) w) (fun w =>
    LoopP (fun J vs w =>   -- [5]
    NextP Tryz.prog (builtin Go.Builtin.len #[74] 3 #[false] #[a0]) (fun v13 w =>
    LiftP Tryz.prog (binS Go.BinOp.lss 3 (Go.Operand.tmp 11) (Go.Operand.tmp 13) (vs.headD undef) v13) (fun v14 w =>
    CondP v14 (fun w =>
      DrawP (fun S w =>
    YieldP Tryz.prog S (Instr.indexAt 74 a0 (vs.headD undef)) (fun v19 w =>
    YieldP Tryz.prog S (Instr.loadAt 3 v19) (fun v20 w =>
    YieldP Tryz.prog S (Instr.indexAt 74 a1 (vs.headD undef)) (fun v23 w =>
    YieldP Tryz.prog S (Instr.loadAt 3 v23) (fun v24 w =>
    YieldP Tryz.prog S (binS Go.BinOp.neq 3 (Go.Operand.tmp 20) (Go.Operand.tmp 24) v20 v24) (fun v25 w =>
    CondP v25 (fun w =>
      R (Go.Value.bool false) w) (fun w =>
      LiftP Tryz.prog (binS Go.BinOp.add 3 (Go.Operand.tmp 15) (Go.Operand.const (Go.Value.int Go.IntKind.i64 1)) (vs.headD undef) (Go.Value.int Go.IntKind.i64 1)) (fun v16 w =>
    J [v16] w) w) w) w) w) w) w) w) w) (fun w =>
      R (Go.Value.bool true) w) w) w) w) [(Go.Value.int Go.IntKind.i64 0)] w) w) w) w) w
theorem S36.calls (a0 a1 : Value) (R : Value → World → Prop) (w : World) (h : S36 a0 a1 R w) : Calls Tryz.prog 36 #[a0, a1] w fun e w' => ∃ v, e = .returned v ∧ R v w' :=
  calls_of_tr (n := 26) (c := bodyOf Tryz.f36) (.two .leaf (.two (.two .leaf (.two (.two .leaf .leaf) .leaf)) (.two (.two .leaf (.one (.loop [5] (.two (.two .leaf (.two .leaf .leaf)) (.two (.one (.two (.draw [(true, 0), (true, 1), (true, 2), (true, 3), (true, 4), (true, 5), (true, 6), (true, 7), (true, 8)]) (.two (.two .leaf .leaf) .leaf))) .leaf))))) (.two .leaf .leaf)))) Tryz.func36 (by kernel_rfl) Tryz.ntmps36 (by kernel_rfl) (by kernel_rfl) [a0, a1] (by kernel_rfl) (of_eq_ (by kernel_rfl) h)

/-- (*shelfmark/once.Table).Known -/
def S37 (a0 a1 : Value) (R : Value → World → Prop) (w : World) : Prop :=
  NextP Tryz.prog (nilChk a0) (fun v7 w =>
  LiftP Tryz.prog (Instr.fieldAt 55 v7 0) (fun v8 w =>
  LiftP Tryz.prog (Instr.loadAt 53 v8) (fun v9 w =>
  LiftP Tryz.prog (Instr.lookup 53 v9 a1 false) (fun v11 w =>
  LiftP Tryz.prog (binS Go.BinOp.neq 58 (Go.Operand.tmp 12) (Go.Operand.const (Go.Value.pointer none)) v11 (Go.Value.pointer none)) (fun v13 w =>
  CondP v13 (fun w =>
    NextP Tryz.prog (nilChk v11) (fun v15 w =>
    LiftP Tryz.prog (Instr.fieldAt 63 v15 1) (fun v16 w =>
    LiftP Tryz.prog (Instr.loadAt 61 v16) (fun v17 w =>
    CallP Tryz.prog 31 #[v17] (fun v18 w =>
    CallP Tryz.prog 28 #[v18] (fun v19 w =>
    R v19 w) w) w) w) w) w) (fun w =>
    R (Go.Value.slice none 0 0) w) w) w) w) w) w) w
theorem S37.calls (a0 a1 : Value) (R : Value → World → Prop) (w : World) (h : S37 a0 a1 R w) : Calls Tryz.prog 37 #[a0, a1] w fun e w' => ∃ v, e = .returned v ∧ R v w' :=
  calls_of_tr (n := 20) (c := bodyOf Tryz.f37) (.two .leaf (.two (.two .leaf (.two .leaf (.two (.two .leaf .leaf) .leaf))) (.two .leaf .leaf))) Tryz.func37 (by kernel_rfl) Tryz.ntmps37 (by kernel_rfl) (by kernel_rfl) [a0, a1] (by kernel_rfl) (of_eq_ (by kernel_rfl) h)

/-- (*shelfmark/shelfmarkref17.Table).Known -/
def S38 (a0 a1 : Value) (R : Value → World → Prop) (w : World) : Prop :=
  LoopP (fun J vs w =>   -- [5, 6]
    NextP Tryz.prog (nilChk a0) (fun v9 w =>
    LiftP Tryz.prog (Instr.fieldAt 32 v9 0) (fun v10 w =>
    LiftP Tryz.prog (Instr.loadAt 29 v10) (fun v11 w =>
    NextP Tryz.prog (builtin Go.Builtin.len #[29] 3 #[false] #[v11]) (fun v12 w =>
    LiftP Tryz.prog (binS Go.BinOp.lss 3 (Go.Operand.tmp 7) (Go.Operand.tmp 12) (vs.tail.headD undef) v12) (fun v13 w =>
    CondP v13 (fun w =>
      JoinP (fun J_1 w =>
      NextP Tryz.prog (nilChk a0) (fun v17 w =>
      LiftP Tryz.prog (Instr.fieldAt 32 v17 0) (fun v18 w =>
      LiftP Tryz.prog (Instr.loadAt 29 v18) (fun v19 w =>
      LiftP Tryz.prog (Instr.indexAt 29 v19 (vs.tail.headD undef)) (fun v21 w =>
      LiftP Tryz.prog (Instr.fieldAt 67 v21 0) (fun v22 w =>
      LiftP Tryz.prog (Instr.loadAt 3 v22) (fun v23 w =>
      LiftP Tryz.prog (binS Go.BinOp.eql 3 (Go.Operand.tmp 23) (Go.Operand.tmp 24) v23 a1) (fun v25 w =>
      CondP v25 (fun w =>
        NextP Tryz.prog (nilChk a0) (fun v28 w =>
        LiftP Tryz.prog (Instr.fieldAt 32 v28 0) (fun v29 w =>
        LiftP Tryz.prog (Instr.loadAt 29 v29) (fun v30 w =>
        LiftP Tryz.prog (Instr.indexAt 29 v30 (vs.tail.headD undef)) (fun v32 w =>
        LiftP Tryz.prog (Instr.fieldAt 67 v32 1) (fun v33 w =>
        LiftP Tryz.prog (Instr.loadAt 3 v33) (fun v34 w =>
        LiftP Tryz.prog (Instr.buildSlice 74 1 #[(0, v34)]) (fun v35 w =>
        NextP Tryz.prog (builtin Go.Builtin.append #[74, 74] 74 #[false, false] #[(vs.headD undef), v35]) (fun v36 w =>
        J_1 [v36] w) w) w) w) w) w) w) w) w) (fun w =>
        J_1 [(vs.headD undef)] w) w) w) w) w) w) w) w) w) (fun vs_1 w =>   -- [5]
    LiftP Tryz.prog (binS Go.BinOp.add 3 (Go.Operand.tmp 14) (Go.Operand.const (Go.Value.int Go.IntKind.i64 1)) (vs.tail.headD undef) (Go.Value.int Go.IntKind.i64 1)) (fun v15 w =>
    J [(vs_1.headD undef), v15] w) w) w) (fun w =>
      R (vs.headD undef) w) w) w) w) w) w) w) [(Go.Value.slice none 0 0), (Go.Value.int Go.IntKind.i64 0)] w
theorem S38.calls (a0 a1 : Value) (R : Value → World → Prop) (w : World) (h : S38 a0 a1 R w) : Calls Tryz.prog 38 #[a0, a1] w fun e w' => ∃ v, e = .returned v ∧ R v w' :=
  calls_of_tr (n := 38) (c := bodyOf Tryz.f38) (.two .leaf (.two .leaf (.two (.two .leaf (.one (.loop [5, 6] (.two (.two .leaf (.two .leaf .leaf)) (.join [5] (.one (.two .leaf (.two .leaf .leaf))) .leaf))))) (.two .leaf .leaf)))) Tryz.func38 (by kernel_rfl) Tryz.ntmps38 (by kernel_rfl) (by kernel_rfl) [a0, a1] (by kernel_rfl) (of_eq_ (by kernel_rfl) h)

/-- slices.Clip[shelfmark/api.Record,shelfmark/api.Val] -/
def S43 (a0 : Value) (R : Value → World → Prop) (w : World) : Prop :=
  NextP Tryz.prog (builtin Go.Builtin.len #[36] 3 #[false] #[a0]) (fun v5 w =>
  NextP Tryz.prog (builtin Go.Builtin.len #[36] 3 #[false] #[a0]) (fun v7 w =>
  LiftP Tryz.prog (Instr.sliceAt 36 a0 none (some v5) (some v7)) (fun v8 w =>
  R v8 w) w) w) w
theorem S43.calls (a0 : Value) (R : Value → World → Prop) (w : World) (h : S43 a0 R w) : Calls Tryz.prog 43 #[a0] w fun e w' => ∃ v, e = .returned v ∧ R v w' :=
  calls_of_tr (n := 9) (c := bodyOf Tryz.f43) (.two .leaf (.two .leaf .leaf)) Tryz.func43 (by kernel_rfl) Tryz.ntmps43 (by kernel_rfl) (by kernel_rfl) [a0] (by kernel_rfl) (of_eq_ (by kernel_rfl) h)

/-- slices.Clone[shelfmark/api.Record,shelfmark/api.Val] -/
def S44 (a0 : Value) (R : Value → World → Prop) (w : World) : Prop :=
  LiftP Tryz.prog (binS Go.BinOp.eql 36 (Go.Operand.tmp 3) (Go.Operand.const (Go.Value.slice none 0 0)) a0 (Go.Value.slice none 0 0)) (fun v4 w =>
  CondP v4 (fun w =>
    R (Go.Value.slice none 0 0) w) (fun w =>
    LiftP Tryz.prog (Instr.buildSlice 36 0 #[]) (fun v5 w =>
  NextP Tryz.prog (builtin Go.Builtin.append #[36, 36] 36 #[false, false] #[v5, a0]) (fun v7 w =>
  R v7 w) w) w) w) w
theorem S44.calls (a0 : Value) (R : Value → World → Prop) (w : World) (h : S44 a0 R w) : Calls Tryz.prog 44 #[a0] w fun e w' => ∃ v, e = .returned v ∧ R v w' :=
  calls_of_tr (n := 8) (c := bodyOf Tryz.f44) (.two .leaf (.two (.two .leaf (.two (.two .leaf .leaf) .leaf)) (.two .leaf .leaf))) Tryz.func44 (by kernel_rfl) Tryz.ntmps44 (by kernel_rfl) (by kernel_rfl) [a0] (by kernel_rfl) (of_eq_ (by kernel_rfl) h)

/-- maps.DeleteFunc[map[int]shelfmark/api.Reply,int,shelfmark/api.Reply] -/
def S45 (a0 a1 : Value) (R : Value → World → Prop) (w : World) : Prop :=
  LiftP Tryz.prog (Instr.range 61 a0) (fun v7 w =>
  LoopP (fun J vs w =>   -- []
    LiftP Tryz.prog (Instr.next v7 false 0) (fun v8 w =>
    LiftP Tryz.prog (Instr.extract v8 0) (fun v9 w =>
    CondP v9 (fun w =>
      LiftP Tryz.prog (Instr.entry v7) (fun v10 w =>
    LiftP Tryz.prog (Instr.extract v10 0) (fun v11 w =>
    LiftP Tryz.prog (Instr.extract v10 1) (fun v12 w =>
    LiftP Tryz.prog (Instr.alloc 39 true (.tuple #[])) (fun v5 w =>
    LiftU Tryz.prog (Instr.storeAt 39 v5 v12) (fun v_ w =>
    LiftP Tryz.prog (Instr.loadAt 39 v5) (fun v15 w =>
    NextP Tryz.prog (callV a1 #[v11, v15]) (fun v16 w =>
    CondP v16 (fun w =>
      NextP Tryz.prog (builtin Go.Builtin.delete #[61, 3] 0 #[false, false] #[a0, v11]) (fun v__1 w =>
      J [] w) w) (fun w =>
      J [] w) w) w) w) w) w) w) w) w) (fun w =>
      R (.tuple #[]) w) w) w) w) [] w) w
theorem S45.calls (a0 a1 : Value) (R : Value → World → Prop) (w : World) (h : S45 a0 a1 R w) : Calls Tryz.prog 45 #[a0, a1] w fun e w' => ∃ v, e = .returned v ∧ R v w' :=
  calls_of_tr (n := 19) (c := bodyOf Tryz.f45) (.two .leaf (.one (.loop [] (.two .leaf (.two (.two .leaf .leaf) (.one (.two .leaf (.two .leaf (.two .leaf .leaf))))))))) Tryz.func45 (by kernel_rfl) Tryz.ntmps45 (by kernel_rfl) (by kernel_rfl) [a0, a1] (by kernel_rfl) (of_eq_ (by kernel_rfl) h)

/-- (*shelfmark/once.client).trim$1 -/
def S46 (a0 a1 a2 : Value) (R : Value → World → Prop) (w : World) : Prop :=
  LiftP Tryz.prog (Instr.box 39 a1) (fun v4 w =>
  LiftP Tryz.prog (Instr.loadAt 58 a2) (fun v7 w =>
  NextP Tryz.prog (nilChk v7) (fun v8 w =>
  LiftP Tryz.prog (Instr.fieldAt 63 v8 0) (fun v9 w =>
  LiftP Tryz.prog (Instr.loadAt 3 v9) (fun v10 w =>
  LiftP Tryz.prog (binS Go.BinOp.leq 3 (Go.Operand.tmp 6) (Go.Operand.tmp 10) a0 v10) (fun v11 w =>
  R v11 w) w) w) w) w) w) w
theorem S46.calls (a0 a1 a2 : Value) (R : Value → World → Prop) (w : World) (h : S46 a0 a1 a2 R w) : Calls Tryz.prog 46 #[a0, a1, a2] w fun e w' => ∃ v, e = .returned v ∧ R v w' :=
  calls_of_tr (n := 12) (c := bodyOf Tryz.f46) (.two .leaf (.two .leaf .leaf)) Tryz.func46 (by kernel_rfl) Tryz.ntmps46 (by kernel_rfl) (by kernel_rfl) [a0, a1, a2] (by kernel_rfl) (of_eq_ (by kernel_rfl) h)

/-- slices.Min[[]int,int] -/
def S47 (a0 : Value) (R : Value → World → Prop) (w : World) : Prop :=
  JoinP (fun J w =>
    NextP Tryz.prog (builtin Go.Builtin.len #[74] 3 #[false] #[a0]) (fun v6 w =>
    LiftP Tryz.prog (binS Go.BinOp.lss 3 (Go.Operand.tmp 6) (Go.Operand.const (Go.Value.int Go.IntKind.i64 1)) v6 (Go.Value.int Go.IntKind.i64 1)) (fun v7 w =>
    CondP v7 (fun w =>
      LiftP Tryz.prog (Instr.makeInterface 9 (Go.Value.string { data := #[115, 108, 105, 99, 101, 115, 46, 77, 105, 110, 58, 32, 101, 109, 112, 116, 121, 32, 108, 105, 115, 116] })) (fun v8 w =>
      LiftP Tryz.prog (Instr.panic v8) (fun v_ w =>
      J [] w) w) w) (fun w =>
      J [] w) w) w) w) (fun vs w =>   -- []
  LiftP Tryz.prog (Instr.indexAt 74 a0 (Go.Value.int Go.IntKind.i64 0)) (fun v10 w =>
  LiftP Tryz.prog (Instr.loadAt 3 v10) (fun v11 w =>
  LoopP (fun J_1 vs_1 w =>   -- [3, 4]
    NextP Tryz.prog (builtin Go.Builtin.len #[74] 3 #[false] #[a0]) (fun v14 w =>
    LiftP Tryz.prog (binS Go.BinOp.lss 3 (Go.Operand.tmp 12) (Go.Operand.tmp 14) (vs_1.tail.headD undef) v14) (fun v15 w =>
    CondP v15 (fun w =>
      LiftP Tryz.prog (Instr.indexAt 74 a0 (vs_1.tail.headD undef)) (fun v21 w =>
    LiftP Tryz.prog (Instr.loadAt 3 v21) (fun v22 w =>
    NextP Tryz.prog (builtin Go.Builtin.min #[3, 3] 3 #[false, false] #[(vs_1.headD undef), v22]) (fun v23 w =>
    LiftP Tryz.prog (binS Go.BinOp.add 3 (Go.Operand.tmp 16) (Go.Operand.const (Go.Value.int Go.IntKind.i64 1)) (vs_1.tail.headD undef) (Go.Value.int Go.IntKind.i64 1)) (fun v17 w =>
    J_1 [v23, v17] w) w) w) w) w) (fun w =>
      R (vs_1.headD undef) w) w) w) w) [v11, (Go.Value.int Go.IntKind.i64 1)] w) w) w) w
theorem S47.calls (a0 : Value) (R : Value → World → Prop) (w : World) (h : S47 a0 R w) : Calls Tryz.prog 47 #[a0] w fun e w' => ∃ v, e = .returned v ∧ R v w' :=
  calls_of_tr (n := 25) (c := bodyOf Tryz.f47) (.two .leaf (.join [] (.two .leaf (.two .leaf .leaf)) (.two .leaf (.two (.two .leaf (.one (.loop [3, 4] (.two (.two .leaf (.two .leaf .leaf)) (.two (.one .leaf) .leaf))))) (.two .leaf .leaf))))) Tryz.func47 (by kernel_rfl) Tryz.ntmps47 (by kernel_rfl) (by kernel_rfl) [a0] (by kernel_rfl) (of_eq_ (by kernel_rfl) h)

/-- shelfmark/shelfmarkref03.Row -/
def S49 (a0 : Value) (R : Value → World → Prop) (w : World) : Prop :=
  NextP Tryz.prog (builtin Go.Builtin.len #[35] 3 #[false] #[a0]) (fun v5 w =>
  LiftP Tryz.prog (binS Go.BinOp.gtr 3 (Go.Operand.tmp 5) (Go.Operand.const (Go.Value.int Go.IntKind.i64 4)) v5 (Go.Value.int Go.IntKind.i64 4)) (fun v6 w =>
  CondP v6 (fun w =>
    R (Go.Value.int Go.IntKind.i64 4) w) (fun w =>
    LoopP (fun J vs w =>   -- [3]
    NextP Tryz.prog (builtin Go.Builtin.len #[35] 3 #[false] #[a0]) (fun v9 w =>
    LiftP Tryz.prog (binS Go.BinOp.lss 3 (Go.Operand.tmp 7) (Go.Operand.tmp 9) (vs.headD undef) v9) (fun v10 w =>
    CondP v10 (fun w =>
      LiftP Tryz.prog (Instr.indexAt 35 a0 (vs.headD undef)) (fun v15 w =>
    LiftP Tryz.prog (Instr.loadAt 91 v15) (fun v16 w =>
    CallP Tryz.prog 64 #[v16] (fun v17 w =>
    LiftP Tryz.prog (Op.unary Go.UnOp.not v17) (fun v18 w =>
    CondP v18 (fun w =>
      R (Go.Value.int Go.IntKind.i64 1) w) (fun w =>
      LiftP Tryz.prog (binS Go.BinOp.add 3 (Go.Operand.tmp 11) (Go.Operand.const (Go.Value.int Go.IntKind.i64 1)) (vs.headD undef) (Go.Value.int Go.IntKind.i64 1)) (fun v12 w =>
    J [v12] w) w) w) w) w) w) w) (fun w =>
      R (Go.Value.int Go.IntKind.i64 0) w) w) w) w) [(Go.Value.int Go.IntKind.i64 0)] w) w) w) w
theorem S49.calls (a0 : Value) (R : Value → World → Prop) (w : World) (h : S49 a0 R w) : Calls Tryz.prog 49 #[a0] w fun e w' => ∃ v, e = .returned v ∧ R v w' :=
  calls_of_tr (n := 19) (c := bodyOf Tryz.f49) (.two .leaf (.two (.two .leaf (.two (.two .leaf .leaf) .leaf)) (.two (.two .leaf (.one (.loop [3] (.two (.two .leaf (.two .leaf .leaf)) (.two (.one (.two .leaf (.two (.two .leaf .leaf) .leaf))) .leaf))))) (.two .leaf .leaf)))) Tryz.func49 (by kernel_rfl) Tryz.ntmps49 (by kernel_rfl) (by kernel_rfl) [a0] (by kernel_rfl) (of_eq_ (by kernel_rfl) h)

/-- (*shelfmark/shelfmarkref17.Table).raise -/
def S50 (a0 a1 a2 : Value) (R : Value → World → Prop) (w : World) : Prop :=
  JoinP (fun J w =>
    CallP Tryz.prog 35 #[a0, a1] (fun v13 w =>
    LiftP Tryz.prog (binS Go.BinOp.gtr 3 (Go.Operand.tmp 10) (Go.Operand.tmp 13) a2 v13) (fun v14 w =>
    CondP v14 (fun w =>
      LoopP (fun J_1 vs_1 w =>   -- [6, 7]
        NextP Tryz.prog (nilChk a0) (fun v17 w =>
        LiftP Tryz.prog (Instr.fieldAt 32 v17 1) (fun v18 w =>
        LiftP Tryz.prog (Instr.loadAt 30 v18) (fun v19 w =>
        NextP Tryz.prog (builtin Go.Builtin.len #[30] 3 #[false] #[v19]) (fun v20 w =>
        LiftP Tryz.prog (binS Go.BinOp.lss 3 (Go.Operand.tmp 15) (Go.Operand.tmp 20) (vs_1.tail.headD undef) v20) (fun v21 w =>
        GuardP v21 true (fun K w => K a0 w) (fun v23 w =>
        GuardP v21 true (fun K w => NextP Tryz.prog (nilChk v23) K w) (fun v24 w =>
        GuardP v21 true (fun K w => LiftP Tryz.prog (Instr.fieldAt 32 v24 1) K w) (fun v25 w =>
        GuardP v21 true (fun K w => LiftP Tryz.prog (Instr.loadAt 30 v25) K w) (fun v26 w =>
        GuardP v21 true (fun K w => K (vs_1.tail.headD undef) w) (fun v27 w =>
        GuardP v21 true (fun K w => LiftP Tryz.prog (Instr.indexAt 30 v26 v27) K w) (fun v28 w =>
        GuardP v21 true (fun K w => LiftP Tryz.prog (Instr.fieldAt 88 v28 0) K w) (fun v29 w =>
        GuardP v21 true (fun K w => LiftP Tryz.prog (Instr.loadAt 3 v29) K w) (fun v30 w =>
        GuardP v21 true (fun K w => K a1 w) (fun v31 w =>
        GuardP v21 true (fun K w => LiftP Tryz.prog (binS Go.BinOp.lss 3 (Go.Operand.tmp 30) (Go.Operand.tmp 31) v30 v31) K w) (fun v32 w =>
        PickP v21 v32 (Go.Value.bool false) (fun v33 w =>
        CondP v33 (fun w =>
          NextP Tryz.prog (nilChk a0) (fun v36 w =>
        LiftP Tryz.prog (Instr.fieldAt 32 v36 1) (fun v37 w =>
        LiftP Tryz.prog (Instr.loadAt 30 v37) (fun v38 w =>
        LiftP Tryz.prog (Instr.indexAt 30 v38 (vs_1.tail.headD undef)) (fun v40 w =>
        LiftP Tryz.prog (Instr.loadAt 88 v40) (fun v41 w =>
        LiftP Tryz.prog (Instr.buildSlice 30 1 #[(0, v41)]) (fun v42 w =>
        NextP Tryz.prog (builtin Go.Builtin.append #[30, 30] 30 #[false, false] #[(vs_1.headD undef), v42]) (fun v43 w =>
        LiftP Tryz.prog (binS Go.BinOp.add 3 (Go.Operand.tmp 44) (Go.Operand.const (Go.Value.int Go.IntKind.i64 1)) (vs_1.tail.headD undef) (Go.Value.int Go.IntKind.i64 1)) (fun v45 w =>
        J_1 [v43, v45] w) w) w) w) w) w) w) w) w) (fun w =>
          LiftP Tryz.prog (Instr.build 88 #[(0, a1), (1, a2)]) (fun v49 w =>
      LiftP Tryz.prog (Instr.buildSlice 30 1 #[(0, v49)]) (fun v50 w =>
      NextP Tryz.prog (builtin Go.Builtin.append #[30, 30] 30 #[false, false] #[(vs_1.headD undef), v50]) (fun v51 w =>
      JoinP (fun J_2 w =>
        NextP Tryz.prog (nilChk a0) (fun v54 w =>
        LiftP Tryz.prog (Instr.fieldAt 32 v54 1) (fun v55 w =>
        LiftP Tryz.prog (Instr.loadAt 30 v55) (fun v56 w =>
        NextP Tryz.prog (builtin Go.Builtin.len #[30] 3 #[false] #[v56]) (fun v57 w =>
        LiftP Tryz.prog (binS Go.BinOp.lss 3 (Go.Operand.tmp 52) (Go.Operand.tmp 57) (vs_1.tail.headD undef) v57) (fun v58 w =>
        GuardP v58 true (fun K w => K a0 w) (fun v60 w =>
        GuardP v58 true (fun K w => NextP Tryz.prog (nilChk v60) K w) (fun v61 w =>
        GuardP v58 true (fun K w => LiftP Tryz.prog (Instr.fieldAt 32 v61 1) K w) (fun v62 w =>
        GuardP v58 true (fun K w => LiftP Tryz.prog (Instr.loadAt 30 v62) K w) (fun v63 w =>
        GuardP v58 true (fun K w => K (vs_1.tail.headD undef) w) (fun v64 w =>
        GuardP v58 true (fun K w => LiftP Tryz.prog (Instr.indexAt 30 v63 v64) K w) (fun v65 w =>
        GuardP v58 true (fun K w => LiftP Tryz.prog (Instr.fieldAt 88 v65 0) K w) (fun v66 w =>
        GuardP v58 true (fun K w => LiftP Tryz.prog (Instr.loadAt 3 v66) K w) (fun v67 w =>
        GuardP v58 true (fun K w => K a1 w) (fun v68 w =>
        GuardP v58 true (fun K w => LiftP Tryz.prog (binS Go.BinOp.eql 3 (Go.Operand.tmp 67) (Go.Operand.tmp 68) v67 v68) K w) (fun v69 w =>
        PickP v58 v69 (Go.Value.bool false) (fun v70 w =>
        CondP v70 (fun w =>
          LiftP Tryz.prog (binS Go.BinOp.add 3 (Go.Operand.tmp 71) (Go.Operand.const (Go.Value.int Go.IntKind.i64 1)) (vs_1.tail.headD undef) (Go.Value.int Go.IntKind.i64 1)) (fun v72 w =>
          J_2 [v72] w) w) (fun w =>
          J_2 [(vs_1.tail.headD undef)] w) w) w) w) w) w) w) w) w) w) w) w) w) w) w) w) w) w) (fun vs_2 w =>   -- [7]
      NextP Tryz.prog (nilChk a0) (fun v76 w =>
      LiftP Tryz.prog (Instr.fieldAt 32 v76 1) (fun v77 w =>
      LiftP Tryz.prog (Instr.loadAt 30 v77) (fun v78 w =>
      LiftP Tryz.prog (Instr.sliceAt 30 v78 (some (vs_2.headD undef)) none none) (fun v80 w =>
      NextP Tryz.prog (builtin Go.Builtin.append #[30, 30] 30 #[false, false] #[v51, v80]) (fun v81 w =>
      NextP Tryz.prog (nilChk a0) (fun v82 w =>
      LiftP Tryz.prog (Instr.fieldAt 32 v82 1) (fun v83 w =>
      LiftU Tryz.prog (Instr.storeAt 30 v83 v81) (fun v_ w =>
      J [] w) w) w) w) w) w) w) w) w) w) w) w) w) w) w) w) w) w) w) w) w) w) w) w) w) w) w) w) w) w) [(Go.Value.slice none 0 0), (Go.Value.int Go.IntKind.i64 0)] w) (fun w =>
      J [] w) w) w) w) (fun vs w =>   -- []
  LoopP (fun J_3 vs_3 w =>   -- [8, 9]
    NextP Tryz.prog (nilChk a0) (fun v86 w =>
    LiftP Tryz.prog (Instr.fieldAt 32 v86 0) (fun v87 w =>
    LiftP Tryz.prog (Instr.loadAt 29 v87) (fun v88 w =>
    NextP Tryz.prog (builtin Go.Builtin.len #[29] 3 #[false] #[v88]) (fun v89 w =>
    LiftP Tryz.prog (binS Go.BinOp.lss 3 (Go.Operand.tmp 84) (Go.Operand.tmp 89) (vs_3.tail.headD undef) v89) (fun v90 w =>
    CondP v90 (fun w =>
      JoinP (fun J_4 w =>
      DrawP (fun S w =>
      YieldN Tryz.prog S (nilChk a0) (fun v94 w =>
      YieldP Tryz.prog S (Instr.fieldAt 32 v94 0) (fun v95 w =>
      YieldP Tryz.prog S (Instr.loadAt 29 v95) (fun v96 w =>
      YieldP Tryz.prog S (Instr.indexAt 29 v96 (vs_3.tail.headD undef)) (fun v98 w =>
      YieldP Tryz.prog S (Instr.fieldAt 67 v98 0) (fun v99 w =>
      YieldP Tryz.prog S (Instr.loadAt 3 v99) (fun v100 w =>
      YieldP Tryz.prog S (binS Go.BinOp.neq 3 (Go.Operand.tmp 100) (Go.Operand.tmp 101) v100 a1) (fun v102 w =>
      GuardP v102 false (fun K w => K a0 w) (fun v104 w =>
      GuardP v102 false (fun K w => YieldN Tryz.prog S (nilChk v104) K w) (fun v105 w =>
      GuardP v102 false (fun K w => YieldP Tryz.prog S (Instr.fieldAt 32 v105 0) K w) (fun v106 w =>
      GuardP v102 false (fun K w => YieldP Tryz.prog S (Instr.loadAt 29 v106) K w) (fun v107 w =>
      GuardP v102 false (fun K w => K (vs_3.tail.headD undef) w) (fun v108 w =>
      GuardP v102 false (fun K w => YieldP Tryz.prog S (Instr.indexAt 29 v107 v108) K w) (fun v109 w =>
      GuardP v102 false (fun K w => YieldP Tryz.prog S (Instr.fieldAt 67 v109 1) K w) (fun v110 w =>
      GuardP v102 false (fun K w => YieldP Tryz.prog S (Instr.loadAt 3 v110) K w) (fun v111 w =>
      GuardP v102 false (fun K w => K a0 w) (fun v112 w =>
      GuardP v102 false (fun K w => K a1 w) (fun v113 w =>
      GuardA v102 false S (fun K w => CallP Tryz.prog 35 #[v112, v113] K w) (fun S v114 w =>
      GuardP v102 false (fun K w => YieldP Tryz.prog S (binS Go.BinOp.gtr 3 (Go.Operand.tmp 111) (Go.Operand.tmp 114) v111 v114) K w) (fun v115 w =>
      PickP v102 (Go.Value.bool true) v115 (fun v116 w =>
      CondP v116 (fun w =>
        NextP Tryz.prog (nilChk a0) (fun v119 w =>
        LiftP Tryz.prog (Instr.fieldAt 32 v119 0) (fun v120 w =>
        LiftP Tryz.prog (Instr.loadAt 29 v120) (fun v121 w =>
        LiftP Tryz.prog (Instr.indexAt 29 v121 (vs_3.tail.headD undef)) (fun v123 w =>
        LiftP Tryz.prog (Instr.loadAt 67 v123) (fun v124 w =>
        LiftP Tryz.prog (Instr.buildSlice 29 1 #[(0, v124)]) (fun v125 w =>
        NextP Tryz.prog (builtin Go.Builtin.append #[29, 29] 29 #[false, false] #[(vs_3.headD undef), v125]) (fun v126 w =>
        J_4 [v126] w) w) w) w) w) w) w) w) (fun w =>
        J_4 [(vs_3.headD undef)] w) w) w) w) w) w) w) w) w) w) w) w) w) w) w) w) w) w) w) w) w) w) w) (fun vs_4 w =>   -- [8]
    LiftP Tryz.prog (binS Go.BinOp.add 3 (Go.Operand.tmp 91) (Go.Operand.const (Go.Value.int Go.IntKind.i64 1)) (vs_3.tail.headD undef) (Go.Value.int Go.IntKind.i64 1)) (fun v92 w =>
    J_3 [(vs_4.headD undef), v92] w) w) w) (fun w =>
      NextP Tryz.prog (nilChk a0) (fun v129 w =>
  LiftP Tryz.prog (Instr.fieldAt 32 v129 0) (fun v130 w =>
  LiftU Tryz.prog (Instr.storeAt 29 v130 (vs_3.headD undef)) (fun v__1 w =>
  R (.tuple #[]) w) w) w) w) w) w) w) w) w) w) [(Go.Value.slice none 0 0), (Go.Value.int Go.IntKind.i64 0)] w) w
theorem S50.calls (a0 a1 a2 : Value) (R : Value → World → Prop) (w : World) (h : S50 a0 a1 a2 R w) : Calls Tryz.prog 50 #[a0, a1, a2] w fun e w' => ∃ v, e = .returned v ∧ R v w' :=
  calls_of_tr (n := 131) (c := bodyOf Tryz.f50) (.join [] (.two .leaf (.two (.two .leaf (.two .leaf (.two (.one (.loop [6, 7] (.two (.two .leaf (.two .leaf .leaf)) (.one (.two .leaf .leaf))))) (.two .leaf (.join [7] (.two .leaf (.two .leaf .leaf)) .leaf))))) .leaf)) (.two .leaf (.two (.two .leaf (.one (.loop [8, 9] (.two (.two .leaf (.two .leaf .leaf)) (.join [8] (.one (.two (.draw [(true, 0), (true, 1), (true, 2), (true, 3), (true, 4), (true, 5), (true, 6), (true, 7), (true, 8), (true, 9), (true, 10), (true, 11), (true, 12), (true, 13), (true, 14), (true, 15), (true, 16), (true, 17), (true, 18), (true, 19), (true, 20), (false, 21), (true, 22), (true, 23)]) (.two .leaf .leaf))) .leaf))))) .leaf))) Tryz.func50 (by kernel_rfl) Tryz.ntmps50 (by kernel_rfl) (by kernel_rfl) [a0, a1, a2] (by kernel_rfl) (of_eq_ (by kernel_rfl) h)

/-- shelfmark/pack.GetNum -/
def S51 (a0 a1 : Value) (R : Value → World → Prop) (w : World) : Prop :=
  LiftP Tryz.prog (binS Go.BinOp.lss 3 (Go.Operand.tmp 9) (Go.Operand.const (Go.Value.int Go.IntKind.i64 0)) a1 (Go.Value.int Go.IntKind.i64 0)) (fun v10 w =>
  GuardP v10 false (fun K w => K a1 w) (fun v12 w =>
  GuardP v10 false (fun K w => K a0 w) (fun v13 w =>
  GuardP v10 false (fun K w => NextP Tryz.prog (builtin Go.Builtin.len #[69] 3 #[false] #[v13]) K w) (fun v14 w =>
  GuardP v10 false (fun K w => LiftP Tryz.prog (binS Go.BinOp.gtr 3 (Go.Operand.tmp 12) (Go.Operand.tmp 14) v12 v14) K w) (fun v15 w =>
  PickP v10 (Go.Value.bool true) v15 (fun v16 w =>
  CondP v16 (fun w =>
    R (.tuple #[(Go.Value.int Go.IntKind.i64 0), (Go.Value.int Go.IntKind.i64 0), (Go.Value.int Go.IntKind.i64 1)]) w) (fun w =>
    LiftP Tryz.prog (Instr.sliceAt 69 a0 (some a1) none none) (fun v19 w =>
  NextP Tryz.prog (builtin Go.Builtin.len #[69] 3 #[false] #[v19]) (fun v20 w =>
  LoopP (fun J vs w =>   -- [4, 21]
    LiftP Tryz.prog (binS Go.BinOp.lss 3 (Go.Operand.tmp 21) (Go.Operand.tmp 20) (vs.tail.headD undef) v20) (fun v22 w =>
    CondP v22 (fun w =>
      LiftP Tryz.prog (Instr.indexAt 69 v19 (vs.tail.headD undef)) (fun v24 w =>
    LiftP Tryz.prog (Instr.loadAt 5 v24) (fun v25 w =>
    LiftP Tryz.prog (binS Go.BinOp.and 5 (Go.Operand.tmp 27) (Go.Operand.const (Go.Value.int Go.IntKind.u8 127)) v25 (Go.Value.int Go.IntKind.u8 127)) (fun v28 w =>
    LiftP Tryz.prog (convert 5 3 v28) (fun v29 w =>
    LiftP Tryz.prog (binS Go.BinOp.mul 3 (Go.Operand.const (Go.Value.int Go.IntKind.i64 7)) (Go.Operand.tmp 30) (Go.Value.int Go.IntKind.i64 7) (vs.tail.headD undef)) (fun v31 w =>
    LiftP Tryz.prog (binS Go.BinOp.shl 3 (Go.Operand.tmp 29) (Go.Operand.tmp 31) v29 v31) (fun v32 w =>
    LiftP Tryz.prog (binS Go.BinOp.or 3 (Go.Operand.tmp 26) (Go.Operand.tmp 32) (vs.headD undef) v32) (fun v33 w =>
    JoinP (fun J_1 w =>
      LiftP Tryz.prog (binS Go.BinOp.gtr 5 (Go.Operand.tmp 35) (Go.Operand.const (Go.Value.int Go.IntKind.u8 127)) v25 (Go.Value.int Go.IntKind.u8 127)) (fun v36 w =>
      GuardP v36 true (fun K w => K (vs.tail.headD undef) w) (fun v38 w =>
      GuardP v36 true (fun K w => LiftP Tryz.prog (binS Go.BinOp.eql 3 (Go.Operand.tmp 38) (Go.Operand.const (Go.Value.int Go.IntKind.i64 8)) v38 (Go.Value.int Go.IntKind.i64 8)) K w) (fun v39 w =>
      PickP v36 v39 (Go.Value.bool false) (fun v40 w =>
      CondP v40 (fun w =>
        J_1 [v40] w) (fun w =>
        LiftP Tryz.prog (binS Go.BinOp.eql 5 (Go.Operand.tmp 41) (Go.Operand.const (Go.Value.int Go.IntKind.u8 0)) v25 (Go.Value.int Go.IntKind.u8 0)) (fun v42 w =>
        GuardP v42 true (fun K w => K (vs.tail.headD undef) w) (fun v44 w =>
        GuardP v42 true (fun K w => LiftP Tryz.prog (binS Go.BinOp.gtr 3 (Go.Operand.tmp 44) (Go.Operand.const (Go.Value.int Go.IntKind.i64 0)) v44 (Go.Value.int Go.IntKind.i64 0)) K w) (fun v45 w =>
        PickP v42 v45 (Go.Value.bool false) (fun v46 w =>
        J_1 [v46] w) w) w) w) w) w) w) w) w) w) (fun vs_1 w =>   -- [34]
    CondP (vs_1.headD undef) (fun w =>
      R (.tuple #[(Go.Value.int Go.IntKind.i64 0), (Go.Value.int Go.IntKind.i64 0), (Go.Value.int Go.IntKind.i64 3)]) w) (fun w =>
      LiftP Tryz.prog (binS Go.BinOp.lss 5 (Go.Operand.tmp 48) (Go.Operand.const (Go.Value.int Go.IntKind.u8 128)) v25 (Go.Value.int Go.IntKind.u8 128)) (fun v49 w =>
      CondP v49 (fun w =>
        LiftP Tryz.prog (binS Go.BinOp.add 3 (Go.Operand.tmp 51) (Go.Operand.tmp 52) a1 (vs.tail.headD undef)) (fun v53 w =>
        LiftP Tryz.prog (binS Go.BinOp.add 3 (Go.Operand.tmp 53) (Go.Operand.const (Go.Value.int Go.IntKind.i64 1)) v53 (Go.Value.int Go.IntKind.i64 1)) (fun v54 w =>
        R (.tuple #[v33, v54, (Go.Value.int Go.IntKind.i64 0)]) w) w) w) (fun w =>
        LiftP Tryz.prog (binS Go.BinOp.add 3 (Go.Operand.tmp 21) (Go.Operand.const (Go.Value.int Go.IntKind.i64 1)) (vs.tail.headD undef) (Go.Value.int Go.IntKind.i64 1)) (fun v55 w =>
    J [v33, v55] w) w) w) w) w) w) w) w) w) w) w) w) w) (fun w =>
      R (.tuple #[(Go.Value.int Go.IntKind.i64 0), (Go.Value.int Go.IntKind.i64 0), (Go.Value.int Go.IntKind.i64 2)]) w) w) w) [(Go.Value.int Go.IntKind.i64 0), (Go.Value.int Go.IntKind.i64 0)] w) w) w) w) w) w) w) w) w) w
theorem S51.calls (a0 a1 : Value) (R : Value → World → Prop) (w : World) (h : S51 a0 a1 R w) : Calls Tryz.prog 51 #[a0, a1] w fun e w' => ∃ v, e = .returned v ∧ R v w' :=
  calls_of_tr (n := 56) (c := bodyOf Tryz.f51) (.two .leaf (.two (.two .leaf (.two (.two .leaf .leaf) .leaf)) (.two (.two .leaf (.one (.loop [4, 21] (.two .leaf (.two (.two .leaf .leaf) (.two (.one (.two .leaf (.two .leaf (.one (.join [34] (.two .leaf (.two .leaf .leaf)) (.two (.two .leaf .leaf) (.two .leaf (.two (.two .leaf .leaf) .leaf)))))))) .leaf)))))) (.two .leaf .leaf)))) Tryz.func51 (by kernel_rfl) Tryz.ntmps51 (by kernel_rfl) (by kernel_rfl) [a0, a1] (by kernel_rfl) (of_eq_ (by kernel_rfl) h)

/-- (*shelfmark/once.reader).text -/
def S52 (a0 : Value) (R : Value → World → Prop) (w : World) : Prop :=
  NextP Tryz.prog (nilChk a0) (fun v7 w =>
  LiftP Tryz.prog (Instr.fieldAt 71 v7 2) (fun v8 w =>
  LiftP Tryz.prog (Instr.loadAt 4 v8) (fun v9 w =>
  CondP v9 (fun w =>
    R (Go.Value.string { data := #[] }) w) (fun w =>
    DrawP (fun S w =>
  YieldN Tryz.prog S (nilChk a0) (fun v12 w =>
  YieldP Tryz.prog S (Instr.fieldAt 71 v12 0) (fun v13 w =>
  YieldP Tryz.prog S (Instr.loadAt 69 v13) (fun v14 w =>
  YieldN Tryz.prog S (nilChk a0) (fun v16 w =>
  YieldP Tryz.prog S (Instr.fieldAt 71 v16 1) (fun v17 w =>
  YieldP Tryz.prog S (Instr.loadAt 3 v17) (fun v18 w =>
  YieldN Tryz.prog S (nilChk a0) (fun v20 w =>
  YieldP Tryz.prog S (Instr.fieldAt 71 v20 0) (fun v21 w =>
  YieldP Tryz.prog S (Instr.loadAt 69 v21) (fun v22 w =>
  YieldN Tryz.prog S (builtin Go.Builtin.len #[69] 3 #[false] #[v22]) (fun v23 w =>
  ActP S (fun K w => CallP Tryz.prog 65 #[v14, v18, v23] K w) (fun S v24 w =>
  YieldP Tryz.prog S (Instr.extract v24 0) (fun v25 w =>
  YieldP Tryz.prog S (Instr.extract v24 1) (fun v26 w =>
  YieldP Tryz.prog S (Instr.extract v24 2) (fun v27 w =>
  LiftP Tryz.prog (binS Go.BinOp.neq 34 (Go.Operand.tmp 31) (Go.Operand.const (Go.Value.int Go.IntKind.i64 0)) v27 (Go.Value.int Go.IntKind.i64 0)) (fun v32 w =>
  NextP Tryz.prog (nilChk a0) (fun v33 w =>
  LiftP Tryz.prog (Instr.fieldAt 71 v33 1) (fun v34 w =>
  LiftU Tryz.prog (Instr.storeAt 3 v34 v26) (fun v_ w =>
  NextP Tryz.prog (nilChk a0) (fun v35 w =>
  LiftP Tryz.prog (Instr.fieldAt 71 v35 2) (fun v36 w =>
  LiftU Tryz.prog (Instr.storeAt 4 v36 v32) (fun v__1 w =>
  R v25 w) w) w) w) w) w) w) w) w) w) w) w) w) w) w) w) w) w) w) w) w) w) w) w) w) w) w
theorem S52.calls (a0 : Value) (R : Value → World → Prop) (w : World) (h : S52 a0 R w) : Calls Tryz.prog 52 #[a0] w fun e w' => ∃ v, e = .returned v ∧ R v w' :=
  calls_of_tr (n := 38) (c := bodyOf Tryz.f52) (.two .leaf (.two (.two .leaf (.two (.two .leaf .leaf) .leaf)) (.two (.draw [(true, 0), (true, 1), (true, 2), (true, 3), (true, 4), (true, 5), (true, 6), (true, 7), (true, 8), (true, 9), (true, 10), (true, 11), (true, 12), (false, 13), (true, 14), (true, 15), (true, 16), (true, 17), (true, 18), (true, 19), (true, 20)]) (.two .leaf (.two .leaf .leaf))))) Tryz.func52 (by kernel_rfl) Tryz.ntmps52 (by kernel_rfl) (by kernel_rfl) [a0] (by kernel_rfl) (of_eq_ (by kernel_rfl) h)

/-- slices.Concat[[]byte,byte] -/
def S56 (a0 : Value) (R : Value → World → Prop) (w : World) : Prop :=
  NextP Tryz.prog (builtin Go.Builtin.len #[108] 3 #[false] #[a0]) (fun v10 w =>
  LoopP (fun J vs w =>   -- [3, 11]
    LiftP Tryz.prog (binS Go.BinOp.lss 3 (Go.Operand.tmp 11) (Go.Operand.tmp 10) (vs.tail.headD undef) v10) (fun v12 w =>
    CondP v12 (fun w =>
      JoinP (fun J_1 w =>
      LiftP Tryz.prog (Instr.indexAt 108 a0 (vs.tail.headD undef)) (fun v13 w =>
      LiftP Tryz.prog (Instr.loadAt 69 v13) (fun v14 w =>
      NextP Tryz.prog (builtin Go.Builtin.len #[69] 3 #[false] #[v14]) (fun v17 w =>
      LiftP Tryz.prog (binS Go.BinOp.add 3 (Go.Operand.tmp 15) (Go.Operand.tmp 17) (vs.headD undef) v17) (fun v18 w =>
      LiftP Tryz.prog (binS Go.BinOp.lss 3 (Go.Operand.tmp 19) (Go.Operand.const (Go.Value.int Go.IntKind.i64 0)) v18 (Go.Value.int Go.IntKind.i64 0)) (fun v20 w =>
      CondP v20 (fun w =>
        LiftP Tryz.prog (Instr.makeInterface 9 (Go.Value.string { data := #[108, 101, 110, 32, 111, 117, 116, 32, 111, 102, 32, 114, 97, 110, 103, 101] })) (fun v21 w =>
        LiftP Tryz.prog (Instr.panic v21) (fun v_ w =>
        J_1 [v18] w) w) w) (fun w =>
        J_1 [v18] w) w) w) w) w) w) w) (fun vs_1 w =>   -- [3]
    LiftP Tryz.prog (binS Go.BinOp.add 3 (Go.Operand.tmp 11) (Go.Operand.const (Go.Value.int Go.IntKind.i64 1)) (vs.tail.headD undef) (Go.Value.int Go.IntKind.i64 1)) (fun v22 w =>
    J [(vs_1.headD undef), v22] w) w) w) (fun w =>
      CallP Tryz.prog 69 #[(Go.Value.slice none 0 0), (vs.headD undef)] (fun v24 w =>
  NextP Tryz.prog (builtin Go.Builtin.len #[108] 3 #[false] #[a0]) (fun v26 w =>
  LoopP (fun J_2 vs_2 w =>   -- [6, 27]
    LiftP Tryz.prog (binS Go.BinOp.lss 3 (Go.Operand.tmp 27) (Go.Operand.tmp 26) (vs_2.tail.headD undef) v26) (fun v28 w =>
    CondP v28 (fun w =>
      LiftP Tryz.prog (Instr.indexAt 108 a0 (vs_2.tail.headD undef)) (fun v29 w =>
    LiftP Tryz.prog (Instr.loadAt 69 v29) (fun v30 w =>
    NextP Tryz.prog (builtin Go.Builtin.append #[69, 69] 69 #[false, false] #[(vs_2.headD undef), v30]) (fun v33 w =>
    LiftP Tryz.prog (binS Go.BinOp.add 3 (Go.Operand.tmp 27) (Go.Operand.const (Go.Value.int Go.IntKind.i64 1)) (vs_2.tail.headD undef) (Go.Value.int Go.IntKind.i64 1)) (fun v34 w =>
    J_2 [v33, v34] w) w) w) w) w) (fun w =>
      R (vs_2.headD undef) w) w) w) [v24, (Go.Value.int Go.IntKind.i64 0)] w) w) w) w) w) [(Go.Value.int Go.IntKind.i64 0), (Go.Value.int Go.IntKind.i64 0)] w) w
theorem S56.calls (a0 : Value) (R : Value → World → Prop) (w : World) (h : S56 a0 R w) : Calls Tryz.prog 56 #[a0] w fun e w' => ∃ v, e = .returned v ∧ R v w' :=
  calls_of_tr (n := 36) (c := bodyOf Tryz.f56) (.two .leaf (.two .leaf (.two (.two .leaf (.one (.loop [3, 11] (.two .leaf (.two (.two .leaf .leaf) (.join [3] (.one (.two .leaf (.two .leaf (.two .leaf (.two .leaf .leaf))))) .leaf)))))) (.two .leaf (.two (.two .leaf (.one (.loop [6, 27] (.two .leaf (.two (.two .leaf .leaf) (.two (.one (.two .leaf .leaf)) .leaf)))))) (.two .leaf .leaf)))))) Tryz.func56 (by kernel_rfl) Tryz.ntmps56 (by kernel_rfl) (by kernel_rfl) [a0] (by kernel_rfl) (of_eq_ (by kernel_rfl) h)

/-- shelfmark/shelfmarkref03.Same -/
def S59 (a0 a1 : Value) (R : Value → World → Prop) (w : World) : Prop :=
  NextP Tryz.prog (builtin Go.Builtin.len #[35] 3 #[false] #[a0]) (fun v7 w =>
  NextP Tryz.prog (builtin Go.Builtin.len #[35] 3 #[false] #[a1]) (fun v9 w =>
  LiftP Tryz.prog (binS Go.BinOp.neq 3 (Go.Operand.tmp 7) (Go.Operand.tmp 9) v7 v9) (fun v10 w =>
  CondP v10 (fun w =>
    R (Go.Value.bool false) w) (fun w =>
    LoopP (fun J vs w =>   -- [5]
    NextP Tryz.prog (builtin Go.Builtin.len #[35] 3 #[false] #[a0]) (fun v13 w =>
    LiftP Tryz.prog (binS Go.BinOp.lss 3 (Go.Operand.tmp 11) (Go.Operand.tmp 13) (vs.headD undef) v13) (fun v14 w =>
    CondP v14 (fun w =>
      DrawP (fun S w =>
    YieldP Tryz.prog S (Instr.indexAt 35 a0 (vs.headD undef)) (fun v19 w =>
    YieldP Tryz.prog S (Instr.loadAt 91 v19) (fun v20 w =>
    YieldP Tryz.prog S (Instr.indexAt 35 a1 (vs.headD undef)) (fun v23 w =>
    YieldP Tryz.prog S (Instr.loadAt 91 v23) (fun v24 w =>
    YieldP Tryz.prog S (binS Go.BinOp.neq 91 (Go.Operand.tmp 20) (Go.Operand.tmp 24) v20 v24) (fun v25 w =>
    CondP v25 (fun w =>
      R (Go.Value.bool false) w) (fun w =>
      LiftP Tryz.prog (binS Go.BinOp.add 3 (Go.Operand.tmp 15) (Go.Operand.const (Go.Value.int Go.IntKind.i64 1)) (vs.headD undef) (Go.Value.int Go.IntKind.i64 1)) (fun v16 w =>
    J [v16] w) w) w) w) w) w) w) w) w) (fun w =>
      R (Go.Value.bool true) w) w) w) w) [(Go.Value.int Go.IntKind.i64 0)] w) w) w) w) w
theorem S59.calls (a0 a1 : Value) (R : Value → World → Prop) (w : World) (h : S59 a0 a1 R w) : Calls Tryz.prog 59 #[a0, a1] w fun e w' => ∃ v, e = .returned v ∧ R v w' :=
  calls_of_tr (n := 26) (c := bodyOf Tryz.f59) (.two .leaf (.two (.two .leaf (.two (.two .leaf .leaf) .leaf)) (.two (.two .leaf (.one (.loop [5] (.two (.two .leaf (.two .leaf .leaf)) (.two (.one (.two (.draw [(true, 0), (true, 1), (true, 2), (true, 3), (true, 4), (true, 5), (true, 6), (true, 7), (true, 8)]) (.two (.two .leaf .leaf) .leaf))) .leaf))))) (.two .leaf .leaf)))) Tryz.func59 (by kernel_rfl) Tryz.ntmps59 (by kernel_rfl) (by kernel_rfl) [a0, a1] (by kernel_rfl) (of_eq_ (by kernel_rfl) h)

/-- shelfmark/shelfmarkref05.SameRows -/
def S60 (a0 a1 : Value) (R : Value → World → Prop) (w : World) : Prop :=
  NextP Tryz.prog (builtin Go.Builtin.len #[37] 3 #[false] #[a0]) (fun v7 w =>
  NextP Tryz.prog (builtin Go.Builtin.len #[37] 3 #[false] #[a1]) (fun v9 w =>
  LiftP Tryz.prog (binS Go.BinOp.neq 3 (Go.Operand.tmp 7) (Go.Operand.tmp 9) v7 v9) (fun v10 w =>
  CondP v10 (fun w =>
    R (Go.Value.bool false) w) (fun w =>
    LoopP (fun J vs w =>   -- [5]
    NextP Tryz.prog (builtin Go.Builtin.len #[37] 3 #[false] #[a0]) (fun v13 w =>
    LiftP Tryz.prog (binS Go.BinOp.lss 3 (Go.Operand.tmp 11) (Go.Operand.tmp 13) (vs.headD undef) v13) (fun v14 w =>
    CondP v14 (fun w =>
      DrawP (fun S w =>
    YieldP Tryz.prog S (Instr.indexAt 37 a0 (vs.headD undef)) (fun v19 w =>
    YieldP Tryz.prog S (Instr.fieldAt 124 v19 0) (fun v20 w =>
    YieldP Tryz.prog S (Instr.loadAt 9 v20) (fun v21 w =>
    YieldP Tryz.prog S (Instr.indexAt 37 a1 (vs.headD undef)) (fun v24 w =>
    YieldP Tryz.prog S (Instr.fieldAt 124 v24 0) (fun v25 w =>
    YieldP Tryz.prog S (Instr.loadAt 9 v25) (fun v26 w =>
    YieldP Tryz.prog S (binS Go.BinOp.neq 9 (Go.Operand.tmp 21) (Go.Operand.tmp 26) v21 v26) (fun v27 w =>
    GuardP v27 false (fun K w => K a0 w) (fun v29 w =>
    GuardP v27 false (fun K w => K (vs.headD undef) w) (fun v30 w =>
    GuardP v27 false (fun K w => YieldP Tryz.prog S (Instr.indexAt 37 v29 v30) K w) (fun v31 w =>
    GuardP v27 false (fun K w => YieldP Tryz.prog S (Instr.fieldAt 124 v31 1) K w) (fun v32 w =>
    GuardP v27 false (fun K w => YieldP Tryz.prog S (Instr.loadAt 36 v32) K w) (fun v33 w =>
    GuardP v27 false (fun K w => K a1 w) (fun v34 w =>
    GuardP v27 false (fun K w => K (vs.headD undef) w) (fun v35 w =>
    GuardP v27 false (fun K w => YieldP Tryz.prog S (Instr.indexAt 37 v34 v35) K w) (fun v36 w =>
    GuardP v27 false (fun K w => YieldP Tryz.prog S (Instr.fieldAt 124 v36 1) K w) (fun v37 w =>
    GuardP v27 false (fun K w => YieldP Tryz.prog S (Instr.loadAt 36 v37) K w) (fun v38 w =>
    GuardA v27 false S (fun K w => CallP Tryz.prog 59 #[v33, v38] K w) (fun S v39 w =>
    GuardP v27 false (fun K w => YieldP Tryz.prog S (Op.unary Go.UnOp.not v39) K w) (fun v40 w =>
    PickP v27 (Go.Value.bool true) v40 (fun v41 w =>
    CondP v41 (fun w =>
      R (Go.Value.bool false) w) (fun w =>
      LiftP Tryz.prog (binS Go.BinOp.add 3 (Go.Operand.tmp 15) (Go.Operand.const (Go.Value.int Go.IntKind.i64 1)) (vs.headD undef) (Go.Value.int Go.IntKind.i64 1)) (fun v16 w =>
    J [v16] w) w) w) w) w) w) w) w) w) w) w) w) w) w) w) w) w) w) w) w) w) w) w) w) (fun w =>
      R (Go.Value.bool true) w) w) w) w) [(Go.Value.int Go.IntKind.i64 0)] w) w) w) w) w
theorem S60.calls (a0 a1 : Value) (R : Value → World → Prop) (w : World) (h : S60 a0 a1 R w) : Calls Tryz.prog 60 #[a0, a1] w fun e w' => ∃ v, e = .returned v ∧ R v w' :=
  calls_of_tr (n := 42) (c := bodyOf Tryz.f60) (.two .leaf (.two (.two .leaf (.two (.two .leaf .leaf) .leaf)) (.two (.two .leaf (.one (.loop [5] (.two (.two .leaf (.two .leaf .leaf)) (.two (.one (.two (.draw [(true, 0), (true, 1), (true, 2), (true, 3), (true, 4), (true, 5), (true, 6), (true, 7), (true, 8), (true, 9), (true, 10), (true, 11), (true, 12), (true, 13), (true, 14), (true, 15), (true, 16), (true, 17), (true, 18), (true, 19), (true, 20), (true, 21), (false, 22), (true, 23), (true, 24)]) (.two (.two .leaf .leaf) .leaf))) .leaf))))) (.two .leaf .leaf)))) Tryz.func60 (by kernel_rfl) Tryz.ntmps60 (by kernel_rfl) (by kernel_rfl) [a0, a1] (by kernel_rfl) (of_eq_ (by kernel_rfl) h)

/-- shelfmark/shelfmarkref03.Good -/
def S64 (a0 : Value) (R : Value → World → Prop) (w : World) : Prop :=
  LiftP Tryz.prog (Instr.box 91 a0) (fun v1 w =>
  LiftP Tryz.prog (Instr.fieldAt 91 v1 0) (fun v3 w =>
  LiftP Tryz.prog (Instr.loadAt 3 v3) (fun v4 w =>
  LiftP Tryz.prog (binS Go.BinOp.eql 3 (Go.Operand.tmp 4) (Go.Operand.const (Go.Value.int Go.IntKind.i64 0)) v4 (Go.Value.int Go.IntKind.i64 0)) (fun v5 w =>
  GuardP v5 true (fun K w => LiftP Tryz.prog (Instr.fieldAt 91 v1 1) K w) (fun v7 w =>
  GuardP v5 true (fun K w => LiftP Tryz.prog (Instr.loadAt 3 v7) K w) (fun v8 w =>
  GuardP v5 true (fun K w => LiftP Tryz.prog (binS Go.BinOp.eql 3 (Go.Operand.tmp 8) (Go.Operand.const (Go.Value.int Go.IntKind.i64 0)) v8 (Go.Value.int Go.IntKind.i64 0)) K w) (fun v9 w =>
  PickP v5 v9 (Go.Value.bool false) (fun v10 w =>
  GuardP v10 true (fun K w => LiftP Tryz.prog (Instr.fieldAt 91 v1 2) K w) (fun v12 w =>
  GuardP v10 true (fun K w => LiftP Tryz.prog (Instr.loadAt 9 v12) K w) (fun v13 w =>
  GuardP v10 true (fun K w => LiftP Tryz.prog (binS Go.BinOp.eql 9 (Go.Operand.tmp 13) (Go.Operand.const (Go.Value.string { data := #[] })) v13 (Go.Value.string { data := #[] })) K w) (fun v14 w =>
  PickP v10 v14 (Go.Value.bool false) (fun v15 w =>
  GuardP v15 false (fun K w => LiftP Tryz.prog (Instr.fieldAt 91 v1 0) K w) (fun v17 w =>
  GuardP v15 false (fun K w => LiftP Tryz.prog (Instr.loadAt 3 v17) K w) (fun v18 w =>
  GuardP v15 false (fun K w => LiftP Tryz.prog (binS Go.BinOp.eql 3 (Go.Operand.tmp 18) (Go.Operand.const (Go.Value.int Go.IntKind.i64 1)) v18 (Go.Value.int Go.IntKind.i64 1)) K w) (fun v19 w =>
  GuardP v15 false (fun K w => K v19 w) (fun v20 w =>
  GuardP v20 true (fun K w => LiftP Tryz.prog (Instr.fieldAt 91 v1 2) K w) (fun v21 w =>
  GuardP v20 true (fun K w => LiftP Tryz.prog (Instr.loadAt 9 v21) K w) (fun v22 w =>
  GuardP v20 true (fun K w => LiftP Tryz.prog (binS Go.BinOp.eql 9 (Go.Operand.tmp 22) (Go.Operand.const (Go.Value.string { data := #[] })) v22 (Go.Value.string { data := #[] })) K w) (fun v23 w =>
  GuardP v15 false (fun K w => PickP v20 v23 (Go.Value.bool false) K w) (fun v24 w =>
  PickP v15 (Go.Value.bool true) v24 (fun v25 w =>
  GuardP v25 false (fun K w => LiftP Tryz.prog (Instr.fieldAt 91 v1 0) K w) (fun v27 w =>
  GuardP v25 false (fun K w => LiftP Tryz.prog (Instr.loadAt 3 v27) K w) (fun v28 w =>
  GuardP v25 false (fun K w => LiftP Tryz.prog (binS Go.BinOp.eql 3 (Go.Operand.tmp 28) (Go.Operand.const (Go.Value.int Go.IntKind.i64 2)) v28 (Go.Value.int Go.IntKind.i64 2)) K w) (fun v29 w =>
  GuardP v25 false (fun K w => K v29 w) (fun v30 w =>
  GuardP v30 true (fun K w => LiftP Tryz.prog (Instr.fieldAt 91 v1 1) K w) (fun v31 w =>
  GuardP v30 true (fun K w => LiftP Tryz.prog (Instr.loadAt 3 v31) K w) (fun v32 w =>
  GuardP v30 true (fun K w => LiftP Tryz.prog (binS Go.BinOp.eql 3 (Go.Operand.tmp 32) (Go.Operand.const (Go.Value.int Go.IntKind.i64 0)) v32 (Go.Value.int Go.IntKind.i64 0)) K w) (fun v33 w =>
  GuardP v25 false (fun K w => PickP v30 v33 (Go.Value.bool false) K w) (fun v34 w =>
  GuardP v25 false (fun K w => K v34 w) (fun v35 w =>
  GuardP v35 true (fun K w => LiftP Tryz.prog (Instr.fieldAt 91 v1 2) K w) (fun v36 w =>
  GuardP v35 true (fun K w => LiftP Tryz.prog (Instr.loadAt 9 v36) K w) (fun v37 w =>
  GuardP v35 true (fun K w => NextP Tryz.prog (builtin Go.Builtin.len #[9] 3 #[false] #[v37]) K w) (fun v38 w =>
  GuardP v35 true (fun K w => LiftP Tryz.prog (binS Go.BinOp.leq 3 (Go.Operand.tmp 38) (Go.Operand.const (Go.Value.int Go.IntKind.i64 32)) v38 (Go.Value.int Go.IntKind.i64 32)) K w) (fun v39 w =>
  GuardP v25 false (fun K w => PickP v35 v39 (Go.Value.bool false) K w) (fun v40 w =>
  PickP v25 (Go.Value.bool true) v40 (fun v41 w =>
  R v41 w) w) w) w) w) w) w) w) w) w) w) w) w) w) w) w) w) w) w) w) w) w) w) w) w) w) w) w) w) w) w) w) w) w) w) w) w
theorem S64.calls (a0 : Value) (R : Value → World → Prop) (w : World) (h : S64 a0 R w) : Calls Tryz.prog 64 #[a0] w fun e w' => ∃ v, e = .returned v ∧ R v w' :=
  calls_of_tr (n := 42) (c := bodyOf Tryz.f64) (.two .leaf (.two .leaf .leaf)) Tryz.func64 (by kernel_rfl) Tryz.ntmps64 (by kernel_rfl) (by kernel_rfl) [a0] (by kernel_rfl) (of_eq_ (by kernel_rfl) h)

/-- shelfmark/pack.GetText -/
def S65 (a0 a1 a2 : Value) (R : Value → World → Prop) (w : World) : Prop :=
  CallP Tryz.prog 51 #[a0, a1] (fun v13 w =>
  LiftP Tryz.prog (Instr.extract v13 0) (fun v14 w =>
  LiftP Tryz.prog (Instr.extract v13 1) (fun v15 w =>
  LiftP Tryz.prog (Instr.extract v13 2) (fun v16 w =>
  LiftP Tryz.prog (binS Go.BinOp.neq 34 (Go.Operand.tmp 18) (Go.Operand.const (Go.Value.int Go.IntKind.i64 0)) v16 (Go.Value.int Go.IntKind.i64 0)) (fun v19 w =>
  CondP v19 (fun w =>
    R (.tuple #[(Go.Value.string { data := #[] }), (Go.Value.int Go.IntKind.i64 0), v16]) w) (fun w =>
    LiftP Tryz.prog (binS Go.BinOp.gtr 3 (Go.Operand.tmp 22) (Go.Operand.tmp 23) v14 a2) (fun v24 w =>
    CondP v24 (fun w =>
      R (.tuple #[(Go.Value.string { data := #[] }), (Go.Value.int Go.IntKind.i64 0), (Go.Value.int Go.IntKind.i64 4)]) w) (fun w =>
      NextP Tryz.prog (builtin Go.Builtin.len #[69] 3 #[false] #[a0]) (fun v28 w =>
      LiftP Tryz.prog (binS Go.BinOp.sub 3 (Go.Operand.tmp 28) (Go.Operand.tmp 29) v28 v15) (fun v30 w =>
      LiftP Tryz.prog (binS Go.BinOp.gtr 3 (Go.Operand.tmp 26) (Go.Operand.tmp 30) v14 v30) (fun v31 w =>
      CondP v31 (fun w =>
        R (.tuple #[(Go.Value.string { data := #[] }), (Go.Value.int Go.IntKind.i64 0), (Go.Value.int Go.IntKind.i64 2)]) w) (fun w =>
        LiftP Tryz.prog (binS Go.BinOp.add 3 (Go.Operand.tmp 34) (Go.Operand.tmp 35) v15 v14) (fun v36 w =>
  LiftP Tryz.prog (Instr.sliceAt 69 a0 (some v15) (some v36) none) (fun v37 w =>
  LiftP Tryz.prog (convert 69 9 v37) (fun v38 w =>
  LiftP Tryz.prog (binS Go.BinOp.add 3 (Go.Operand.tmp 39) (Go.Operand.tmp 40) v15 v14) (fun v41 w =>
  R (.tuple #[v38, v41, (Go.Value.int Go.IntKind.i64 0)]) w) w) w) w) w) w) w) w) w) w) w) w) w) w) w) w) w
theorem S65.calls (a0 a1 a2 : Value) (R : Value → World → Prop) (w : World) (h : S65 a0 a1 a2 R w) : Calls Tryz.prog 65 #[a0, a1, a2] w fun e w' => ∃ v, e = .returned v ∧ R v w' :=
  calls_of_tr (n := 42) (c := bodyOf Tryz.f65) (.two .leaf (.two .leaf (.two (.one (.two .leaf (.two (.two .leaf .leaf) (.two .leaf (.two (.two .leaf .leaf) (.two .leaf (.two (.two .leaf .leaf) .leaf))))))) (.two .leaf .leaf)))) Tryz.func65 (by kernel_rfl) Tryz.ntmps65 (by kernel_rfl) (by kernel_rfl) [a0, a1, a2] (by kernel_rfl) (of_eq_ (by kernel_rfl) h)

/-- slices.Grow[[]byte,byte] -/
def S69 (a0 a1 : Value) (R : Value → World → Prop) (w : World) : Prop :=
  JoinP (fun J w =>
    LiftP Tryz.prog (binS Go.BinOp.lss 3 (Go.Operand.tmp 5) (Go.Operand.const (Go.Value.int Go.IntKind.i64 0)) a1 (Go.Value.int Go.IntKind.i64 0)) (fun v6 w =>
    CondP v6 (fun w =>
      LiftP Tryz.prog (Instr.makeInterface 9 (Go.Value.string { data := #[99, 97, 110, 110, 111, 116, 32, 98, 101, 32, 110, 101, 103, 97, 116, 105, 118, 101] })) (fun v7 w =>
      LiftP Tryz.prog (Instr.panic v7) (fun v_ w =>
      J [] w) w) w) (fun w =>
      J [] w) w) w) (fun vs w =>   -- []
  JoinP (fun J_1 w =>
    NextP Tryz.prog (builtin Go.Builtin.cap #[69] 3 #[false] #[a0]) (fun v10 w =>
    NextP Tryz.prog (builtin Go.Builtin.len #[69] 3 #[false] #[a0]) (fun v12 w =>
    LiftP Tryz.prog (binS Go.BinOp.sub 3 (Go.Operand.tmp 10) (Go.Operand.tmp 12) v10 v12) (fun v13 w =>
    LiftP Tryz.prog (binS Go.BinOp.sub 3 (Go.Operand.tmp 8) (Go.Operand.tmp 13) a1 v13) (fun v14 w =>
    LiftP Tryz.prog (binS Go.BinOp.gtr 3 (Go.Operand.tmp 15) (Go.Operand.const (Go.Value.int Go.IntKind.i64 0)) v14 (Go.Value.int Go.IntKind.i64 0)) (fun v16 w =>
    CondP v16 (fun w =>
      NextP Tryz.prog (builtin Go.Builtin.cap #[69] 3 #[false] #[a0]) (fun v19 w =>
      LiftP Tryz.prog (Instr.sliceAt 69 a0 none (some v19) none) (fun v20 w =>
      NextP Tryz.prog (builtin Go.Builtin.append #[69, 3] 69 #[false, false] #[v20, v14]) (fun v22 w =>
      NextP Tryz.prog (builtin Go.Builtin.len #[69] 3 #[false] #[a0]) (fun v24 w =>
      LiftP Tryz.prog (Instr.sliceAt 69 v22 none (some v24) none) (fun v25 w =>
      J_1 [v25] w) w) w) w) w) w) (fun w =>
      J_1 [a0] w) w) w) w) w) w) w) (fun vs_1 w =>   -- [0]
  R (vs_1.headD undef) w) w) w
theorem S69.calls (a0 a1 : Value) (R : Value → World → Prop) (w : World) (h : S69 a0 a1 R w) : Calls Tryz.prog 69 #[a0, a1] w fun e w' => ∃ v, e = .returned v ∧ R v w' :=
  calls_of_tr (n := 27) (c := bodyOf Tryz.f69) (.two .leaf (.join [] (.two .leaf (.two .leaf .leaf)) (.join [0] (.two .leaf (.two .leaf (.two .leaf .leaf))) (.two .leaf .leaf)))) Tryz.func69 (by kernel_rfl) Tryz.ntmps69 (by kernel_rfl) (by kernel_rfl) [a0, a1] (by kernel_rfl) (of_eq_ (by kernel_rfl) h)

end Go.Proofs.YtmnaggdhkggjhaaGreatDoor.E
