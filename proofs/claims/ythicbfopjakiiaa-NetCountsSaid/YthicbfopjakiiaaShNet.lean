import Derived.Test.YthicbfopjakiiaaE4
import Derived.Test.YthicbfopjakiiaaProg
import Derived.KernelRfl
namespace Go.Proofs.Ythicbfopjakiiaa.E
open Go
set_option maxRecDepth 100000

/-- shelfmark/shelfmarklaw14.NetFull -/
def S6 (a0 : Value) (R : Value → World → Prop) (w : World) : Prop :=
  CallP Try.prog 28 #[] (fun v12 w =>
  LiftP Try.prog (Op.unary Go.UnOp.not v12) (fun v13 w =>
  CondP v13 (fun w =>
    R (Go.Value.bool false) w) (fun w =>
    CallP Try.prog 29 #[] (fun v14 w =>
  LoopP (fun J vs w =>   -- [4]
    LiftP Try.prog (binS Go.BinOp.leq 3 (Go.Operand.tmp 15) (Go.Operand.const (Go.Value.int Go.IntKind.i64 4096)) (vs.headD undef) (Go.Value.int Go.IntKind.i64 4096)) (fun v16 w =>
    CondP v16 (fun w =>
      LiftP Try.prog (Instr.build 58 #[(3, (vs.headD undef))]) (fun v22 w =>
    CallP Try.prog 30 #[v14, v22] (fun v23 w =>
    LiftP Try.prog (Instr.extract v23 0) (fun v24 w =>
    LiftP Try.prog (Instr.extract v23 1) (fun v25 w =>
    LiftP Try.prog (binS Go.BinOp.neq 3 (Go.Operand.tmp 26) (Go.Operand.tmp 27) v24 (vs.headD undef)) (fun v28 w =>
    GuardP v28 false (fun K w => K v25 w) (fun v30 w =>
    GuardP v28 false (fun K w => LiftP Try.prog (binS Go.BinOp.neq 25 (Go.Operand.tmp 30) (Go.Operand.const (Go.Value.int Go.IntKind.i64 0)) v30 (Go.Value.int Go.IntKind.i64 0)) K w) (fun v31 w =>
    PickP v28 (Go.Value.bool true) v31 (fun v32 w =>
    CondP v32 (fun w =>
      R (Go.Value.bool false) w) (fun w =>
      LiftP Try.prog (binS Go.BinOp.add 3 (Go.Operand.tmp 17) (Go.Operand.const (Go.Value.int Go.IntKind.i64 1)) (vs.headD undef) (Go.Value.int Go.IntKind.i64 1)) (fun v18 w =>
    J [v18] w) w) w) w) w) w) w) w) w) w) w) (fun w =>
      LiftP Try.prog (Instr.build 58 #[]) (fun v35 w =>
  CallP Try.prog 30 #[v14, v35] (fun v36 w =>
  LiftP Try.prog (Instr.extract v36 0) (fun v37 w =>
  LiftP Try.prog (Instr.extract v36 1) (fun v38 w =>
  CallP Try.prog 31 #[v14, (Go.Value.int Go.IntKind.i64 1)] (fun v41 w =>
  LiftP Try.prog (Instr.extract v41 0) (fun v42 w =>
  LiftP Try.prog (Instr.extract v41 1) (fun v43 w =>
  LiftP Try.prog (binS Go.BinOp.neq 3 (Go.Operand.tmp 44) (Go.Operand.const (Go.Value.int Go.IntKind.i64 0)) v37 (Go.Value.int Go.IntKind.i64 0)) (fun v45 w =>
  GuardP v45 false (fun K w => K v42 w) (fun v47 w =>
  GuardP v45 false (fun K w => LiftP Try.prog (binS Go.BinOp.neq 3 (Go.Operand.tmp 47) (Go.Operand.const (Go.Value.int Go.IntKind.i64 0)) v47 (Go.Value.int Go.IntKind.i64 0)) K w) (fun v48 w =>
  PickP v45 (Go.Value.bool true) v48 (fun v49 w =>
  GuardP v49 false (fun K w => K v38 w) (fun v51 w =>
  GuardP v49 false (fun K w => LiftP Try.prog (binS Go.BinOp.neq 25 (Go.Operand.tmp 51) (Go.Operand.const (Go.Value.int Go.IntKind.i64 17)) v51 (Go.Value.int Go.IntKind.i64 17)) K w) (fun v52 w =>
  PickP v49 (Go.Value.bool true) v52 (fun v53 w =>
  GuardP v53 false (fun K w => K v43 w) (fun v55 w =>
  GuardP v53 false (fun K w => LiftP Try.prog (binS Go.BinOp.neq 25 (Go.Operand.tmp 55) (Go.Operand.const (Go.Value.int Go.IntKind.i64 17)) v55 (Go.Value.int Go.IntKind.i64 17)) K w) (fun v56 w =>
  PickP v53 (Go.Value.bool true) v56 (fun v57 w =>
  GuardP v57 false (fun K w => K v14 w) (fun v59 w =>
  GuardP v57 false (fun K w => CallP Try.prog 32 #[v59] K w) (fun v60 w =>
  GuardP v57 false (fun K w => LiftP Try.prog (binS Go.BinOp.neq 3 (Go.Operand.tmp 60) (Go.Operand.const (Go.Value.int Go.IntKind.i64 4096)) v60 (Go.Value.int Go.IntKind.i64 4096)) K w) (fun v61 w =>
  PickP v57 (Go.Value.bool true) v61 (fun v62 w =>
  CondP v62 (fun w =>
    R (Go.Value.bool false) w) (fun w =>
    CallP Try.prog 33 #[v14, a0] (fun v66 w =>
  LiftP Try.prog (Instr.extract v66 0) (fun v67 w =>
  LiftP Try.prog (Instr.extract v66 1) (fun v68 w =>
  LiftP Try.prog (Instr.alloc 58 true (.tuple #[])) (fun v11 w =>
  LiftU Try.prog (Instr.storeAt 58 v11 v67) (fun v_ w =>
  LiftP Try.prog (binS Go.BinOp.lss 3 (Go.Operand.tmp 69) (Go.Operand.const (Go.Value.int Go.IntKind.i64 1)) a0 (Go.Value.int Go.IntKind.i64 1)) (fun v70 w =>
  GuardP v70 false (fun K w => K a0 w) (fun v72 w =>
  GuardP v70 false (fun K w => LiftP Try.prog (binS Go.BinOp.gtr 3 (Go.Operand.tmp 72) (Go.Operand.const (Go.Value.int Go.IntKind.i64 4096)) v72 (Go.Value.int Go.IntKind.i64 4096)) K w) (fun v73 w =>
  PickP v70 (Go.Value.bool true) v73 (fun v74 w =>
  CondP v74 (fun w =>
    LiftP Try.prog (binS Go.BinOp.eql 25 (Go.Operand.tmp 75) (Go.Operand.const (Go.Value.int Go.IntKind.i64 7)) v68 (Go.Value.int Go.IntKind.i64 7)) (fun v76 w =>
    GuardP v76 true (fun K w => K v14 w) (fun v78 w =>
    GuardP v76 true (fun K w => CallP Try.prog 32 #[v78] K w) (fun v79 w =>
    GuardP v76 true (fun K w => LiftP Try.prog (binS Go.BinOp.eql 3 (Go.Operand.tmp 79) (Go.Operand.const (Go.Value.int Go.IntKind.i64 4096)) v79 (Go.Value.int Go.IntKind.i64 4096)) K w) (fun v80 w =>
    PickP v76 v80 (Go.Value.bool false) (fun v81 w =>
    R v81 w) w) w) w) w) w) (fun w =>
    LiftP Try.prog (Instr.build 58 #[]) (fun v84 w =>
  CallP Try.prog 30 #[v14, v84] (fun v85 w =>
  LiftP Try.prog (Instr.extract v85 0) (fun v86 w =>
  LiftP Try.prog (Instr.extract v85 1) (fun v87 w =>
  LiftP Try.prog (binS Go.BinOp.eql 25 (Go.Operand.tmp 88) (Go.Operand.const (Go.Value.int Go.IntKind.i64 0)) v68 (Go.Value.int Go.IntKind.i64 0)) (fun v89 w =>
  GuardP v89 true (fun K w => LiftP Try.prog (Instr.fieldAt 58 v11 3) K w) (fun v91 w =>
  GuardP v89 true (fun K w => LiftP Try.prog (Instr.loadAt 3 v91) K w) (fun v92 w =>
  GuardP v89 true (fun K w => K a0 w) (fun v93 w =>
  GuardP v89 true (fun K w => LiftP Try.prog (binS Go.BinOp.eql 3 (Go.Operand.tmp 92) (Go.Operand.tmp 93) v92 v93) K w) (fun v94 w =>
  PickP v89 v94 (Go.Value.bool false) (fun v95 w =>
  GuardP v95 true (fun K w => K v87 w) (fun v97 w =>
  GuardP v95 true (fun K w => LiftP Try.prog (binS Go.BinOp.eql 25 (Go.Operand.tmp 97) (Go.Operand.const (Go.Value.int Go.IntKind.i64 0)) v97 (Go.Value.int Go.IntKind.i64 0)) K w) (fun v98 w =>
  PickP v95 v98 (Go.Value.bool false) (fun v99 w =>
  GuardP v99 true (fun K w => K v86 w) (fun v101 w =>
  GuardP v99 true (fun K w => LiftP Try.prog (binS Go.BinOp.eql 3 (Go.Operand.tmp 101) (Go.Operand.const (Go.Value.int Go.IntKind.i64 4097)) v101 (Go.Value.int Go.IntKind.i64 4097)) K w) (fun v102 w =>
  PickP v99 v102 (Go.Value.bool false) (fun v103 w =>
  R v103 w) w) w) w) w) w) w) w) w) w) w) w) w) w) w) w) w) w) w) w) w) w) w) w) w) w) w) w) w) w) w) w) w) w) w) w) w) w) w) w) w) w) w) w) w) w) w) w) w) w) w) [(Go.Value.int Go.IntKind.i64 1)] w) w) w) w) w
theorem S6.calls (a0 : Value) (R : Value → World → Prop) (w : World) (h : S6 a0 R w) : Calls Try.prog 6 #[a0] w fun e w' => ∃ v, e = .returned v ∧ R v w' :=
  calls_of_tr (n := 104) (c := bodyOf Try.f6) (.two .leaf (.two (.two .leaf (.two (.two .leaf .leaf) .leaf)) (.two .leaf (.two (.two .leaf (.one (.loop [4] (.two (.two .leaf (.two .leaf .leaf)) (.two (.one (.two .leaf (.two .leaf (.two (.two .leaf .leaf) .leaf)))) .leaf))))) (.two .leaf (.two .leaf (.two (.two .leaf (.two (.two .leaf .leaf) .leaf)) (.two .leaf (.two (.two .leaf (.two (.two .leaf .leaf) .leaf)) (.two .leaf (.two .leaf .leaf))))))))))) Try.func6 (by kernel_rfl) Try.ntmps6 (by kernel_rfl) (by kernel_rfl) [a0] (by kernel_rfl) (of_eq_ (by kernel_rfl) h)

/-- shelfmark/shelfmarklaw14.NetKeeps -/
def S7 (a0 : Value) (R : Value → World → Prop) (w : World) : Prop :=
  LiftP Try.prog (Instr.box 58 a0) (fun v1 w =>
  CallP Try.prog 28 #[] (fun v16 w =>
  LiftP Try.prog (Op.unary Go.UnOp.not v16) (fun v17 w =>
  CondP v17 (fun w =>
    R (Go.Value.bool false) w) (fun w =>
    LiftP Try.prog (Instr.loadAt 58 v1) (fun v18 w =>
  CallP Try.prog 34 #[v18] (fun v19 w =>
  LiftP Try.prog (Op.unary Go.UnOp.not v19) (fun v20 w =>
  CondP v20 (fun w =>
    R (Go.Value.bool true) w) (fun w =>
    LiftP Try.prog (Instr.loadAt 58 v1) (fun v21 w =>
  LiftP Try.prog (Instr.alloc 58 true (.tuple #[])) (fun v3 w =>
  LiftU Try.prog (Instr.storeAt 58 v3 v21) (fun v_ w =>
  LiftP Try.prog (Instr.buildSlice 55 0 #[]) (fun v22 w =>
  LiftP Try.prog (Instr.fieldAt 58 v1 9) (fun v23 w =>
  LiftP Try.prog (Instr.loadAt 55 v23) (fun v24 w =>
  NextP Try.prog (builtin Go.Builtin.append #[55, 55] 55 #[false, false] #[v22, v24]) (fun v25 w =>
  LiftP Try.prog (Instr.fieldAt 58 v3 9) (fun v26 w =>
  LiftU Try.prog (Instr.storeAt 55 v26 v25) (fun v__1 w =>
  LiftP Try.prog (Instr.buildSlice 56 0 #[]) (fun v27 w =>
  LiftP Try.prog (Instr.fieldAt 58 v1 10) (fun v28 w =>
  LiftP Try.prog (Instr.loadAt 56 v28) (fun v29 w =>
  NextP Try.prog (builtin Go.Builtin.append #[56, 56] 56 #[false, false] #[v27, v29]) (fun v30 w =>
  LiftP Try.prog (Instr.fieldAt 58 v3 10) (fun v31 w =>
  LiftU Try.prog (Instr.storeAt 56 v31 v30) (fun v__2 w =>
  CallP Try.prog 29 #[] (fun v32 w =>
  LiftP Try.prog (Instr.loadAt 58 v3) (fun v35 w =>
  CallP Try.prog 30 #[v32, v35] (fun v36 w =>
  LiftP Try.prog (Instr.extract v36 0) (fun v37 w =>
  LiftP Try.prog (Instr.extract v36 1) (fun v38 w =>
  LiftP Try.prog (binS Go.BinOp.neq 25 (Go.Operand.tmp 39) (Go.Operand.const (Go.Value.int Go.IntKind.i64 0)) v38 (Go.Value.int Go.IntKind.i64 0)) (fun v40 w =>
  CondP v40 (fun w =>
    CallP Try.prog 32 #[v32] (fun v42 w =>
    LiftP Try.prog (binS Go.BinOp.eql 3 (Go.Operand.tmp 42) (Go.Operand.const (Go.Value.int Go.IntKind.i64 0)) v42 (Go.Value.int Go.IntKind.i64 0)) (fun v43 w =>
    R v43 w) w) w) (fun w =>
    LoopP (fun J vs w =>   -- [7]
    LiftP Try.prog (Instr.fieldAt 58 v3 9) (fun v45 w =>
    LiftP Try.prog (Instr.loadAt 55 v45) (fun v46 w =>
    NextP Try.prog (builtin Go.Builtin.len #[55] 3 #[false] #[v46]) (fun v47 w =>
    LiftP Try.prog (binS Go.BinOp.lss 3 (Go.Operand.tmp 44) (Go.Operand.tmp 47) (vs.headD undef) v47) (fun v48 w =>
    CondP v48 (fun w =>
      DrawP (fun S w =>
    YieldP Try.prog S (Instr.fieldAt 58 v3 9) (fun v51 w =>
    YieldP Try.prog S (Instr.loadAt 55 v51) (fun v52 w =>
    YieldP Try.prog S (Instr.fieldAt 58 v3 9) (fun v54 w =>
    YieldP Try.prog S (Instr.loadAt 55 v54) (fun v55 w =>
    YieldP Try.prog S (Instr.indexAt 55 v55 (vs.headD undef)) (fun v57 w =>
    YieldP Try.prog S (Instr.fieldAt 64 v57 0) (fun v58 w =>
    YieldP Try.prog S (Instr.loadAt 9 v58) (fun v59 w =>
    YieldP Try.prog S (binS Go.BinOp.add 9 (Go.Operand.tmp 59) (Go.Operand.const (Go.Value.string { data := #[33] })) v59 (Go.Value.string { data := #[33] })) (fun v60 w =>
    YieldP Try.prog S (Instr.indexAt 55 v52 (vs.headD undef)) (fun v61 w =>
    YieldP Try.prog S (Instr.fieldAt 64 v61 0) (fun v62 w =>
    LiftU Try.prog (Instr.storeAt 9 v62 v60) (fun v__3 w =>
    LiftP Try.prog (binS Go.BinOp.add 3 (Go.Operand.tmp 49) (Go.Operand.const (Go.Value.int Go.IntKind.i64 1)) (vs.headD undef) (Go.Value.int Go.IntKind.i64 1)) (fun v50 w =>
    J [v50] w) w) w) w) w) w) w) w) w) w) w) w) w) w) (fun w =>
      CallP Try.prog 31 #[v32, (Go.Value.int Go.IntKind.i64 1)] (fun v64 w =>
  CallP Try.prog 35 #[v32, (Go.Value.int Go.IntKind.i64 1)] (fun v67 w =>
  LiftP Try.prog (Instr.extract v67 0) (fun v68 w =>
  LiftP Try.prog (Instr.extract v67 1) (fun v69 w =>
  LiftP Try.prog (Instr.alloc 58 true (.tuple #[])) (fun v8 w =>
  LiftU Try.prog (Instr.storeAt 58 v8 v68) (fun v__4 w =>
  LoopP (fun J_1 vs_1 w =>   -- [10]
    LiftP Try.prog (Instr.fieldAt 58 v8 9) (fun v71 w =>
    LiftP Try.prog (Instr.loadAt 55 v71) (fun v72 w =>
    NextP Try.prog (builtin Go.Builtin.len #[55] 3 #[false] #[v72]) (fun v73 w =>
    LiftP Try.prog (binS Go.BinOp.lss 3 (Go.Operand.tmp 70) (Go.Operand.tmp 73) (vs_1.headD undef) v73) (fun v74 w =>
    CondP v74 (fun w =>
      DrawP (fun S w =>
    YieldP Try.prog S (Instr.fieldAt 58 v8 9) (fun v77 w =>
    YieldP Try.prog S (Instr.loadAt 55 v77) (fun v78 w =>
    YieldP Try.prog S (Instr.fieldAt 58 v8 9) (fun v80 w =>
    YieldP Try.prog S (Instr.loadAt 55 v80) (fun v81 w =>
    YieldP Try.prog S (Instr.indexAt 55 v81 (vs_1.headD undef)) (fun v83 w =>
    YieldP Try.prog S (Instr.fieldAt 64 v83 1) (fun v84 w =>
    YieldP Try.prog S (Instr.loadAt 9 v84) (fun v85 w =>
    YieldP Try.prog S (binS Go.BinOp.add 9 (Go.Operand.tmp 85) (Go.Operand.const (Go.Value.string { data := #[33] })) v85 (Go.Value.string { data := #[33] })) (fun v86 w =>
    YieldP Try.prog S (Instr.indexAt 55 v78 (vs_1.headD undef)) (fun v87 w =>
    YieldP Try.prog S (Instr.fieldAt 64 v87 1) (fun v88 w =>
    LiftU Try.prog (Instr.storeAt 9 v88 v86) (fun v__5 w =>
    LiftP Try.prog (binS Go.BinOp.add 3 (Go.Operand.tmp 75) (Go.Operand.const (Go.Value.int Go.IntKind.i64 1)) (vs_1.headD undef) (Go.Value.int Go.IntKind.i64 1)) (fun v76 w =>
    J_1 [v76] w) w) w) w) w) w) w) w) w) w) w) w) w) w) (fun w =>
      CallP Try.prog 33 #[v32, (Go.Value.int Go.IntKind.i64 1)] (fun v91 w =>
  LiftP Try.prog (Instr.extract v91 0) (fun v92 w =>
  LiftP Try.prog (Instr.extract v91 1) (fun v93 w =>
  LiftP Try.prog (Instr.alloc 58 true (.tuple #[])) (fun v11 w =>
  LiftU Try.prog (Instr.storeAt 58 v11 v92) (fun v__6 w =>
  LoopP (fun J_2 vs_2 w =>   -- [13]
    LiftP Try.prog (Instr.fieldAt 58 v11 10) (fun v95 w =>
    LiftP Try.prog (Instr.loadAt 56 v95) (fun v96 w =>
    NextP Try.prog (builtin Go.Builtin.len #[56] 3 #[false] #[v96]) (fun v97 w =>
    LiftP Try.prog (binS Go.BinOp.lss 3 (Go.Operand.tmp 94) (Go.Operand.tmp 97) (vs_2.headD undef) v97) (fun v98 w =>
    CondP v98 (fun w =>
      DrawP (fun S w =>
    YieldP Try.prog S (Instr.fieldAt 58 v11 10) (fun v101 w =>
    YieldP Try.prog S (Instr.loadAt 56 v101) (fun v102 w =>
    YieldP Try.prog S (Instr.fieldAt 58 v11 10) (fun v104 w =>
    YieldP Try.prog S (Instr.loadAt 56 v104) (fun v105 w =>
    YieldP Try.prog S (Instr.indexAt 56 v105 (vs_2.headD undef)) (fun v107 w =>
    YieldP Try.prog S (Instr.fieldAt 68 v107 2) (fun v108 w =>
    YieldP Try.prog S (Instr.loadAt 4 v108) (fun v109 w =>
    YieldP Try.prog S (Op.unary Go.UnOp.not v109) (fun v110 w =>
    YieldP Try.prog S (Instr.indexAt 56 v102 (vs_2.headD undef)) (fun v111 w =>
    YieldP Try.prog S (Instr.fieldAt 68 v111 2) (fun v112 w =>
    LiftU Try.prog (Instr.storeAt 4 v112 v110) (fun v__7 w =>
    LiftP Try.prog (binS Go.BinOp.add 3 (Go.Operand.tmp 99) (Go.Operand.const (Go.Value.int Go.IntKind.i64 1)) (vs_2.headD undef) (Go.Value.int Go.IntKind.i64 1)) (fun v100 w =>
    J_2 [v100] w) w) w) w) w) w) w) w) w) w) w) w) w) w) (fun w =>
      CallP Try.prog 33 #[v32, (Go.Value.int Go.IntKind.i64 2)] (fun v115 w =>
  LiftP Try.prog (Instr.extract v115 0) (fun v116 w =>
  LiftP Try.prog (Instr.extract v115 1) (fun v117 w =>
  LiftP Try.prog (Instr.alloc 58 true (.tuple #[])) (fun v14 w =>
  LiftU Try.prog (Instr.storeAt 58 v14 v116) (fun v__8 w =>
  LiftP Try.prog (binS Go.BinOp.eql 25 (Go.Operand.tmp 118) (Go.Operand.const (Go.Value.int Go.IntKind.i64 0)) v117 (Go.Value.int Go.IntKind.i64 0)) (fun v119 w =>
  GuardP v119 true (fun K w => LiftP Try.prog (Instr.loadAt 58 v14) K w) (fun v121 w =>
  GuardP v119 true (fun K w => LiftP Try.prog (Instr.loadAt 58 v1) K w) (fun v122 w =>
  GuardP v119 true (fun K w => CallP Try.prog 36 #[v121, v122] K w) (fun v123 w =>
  PickP v119 v123 (Go.Value.bool false) (fun v124 w =>
  GuardP v124 true (fun K w => K v32 w) (fun v126 w =>
  GuardP v124 true (fun K w => CallP Try.prog 32 #[v126] K w) (fun v127 w =>
  GuardP v124 true (fun K w => LiftP Try.prog (binS Go.BinOp.eql 3 (Go.Operand.tmp 127) (Go.Operand.const (Go.Value.int Go.IntKind.i64 0)) v127 (Go.Value.int Go.IntKind.i64 0)) K w) (fun v128 w =>
  PickP v124 v128 (Go.Value.bool false) (fun v129 w =>
  R v129 w) w) w) w) w) w) w) w) w) w) w) w) w) w) w) w) w) w) w) w) [(Go.Value.int Go.IntKind.i64 0)] w) w) w) w) w) w) w) w) w) w) w) [(Go.Value.int Go.IntKind.i64 0)] w) w) w) w) w) w) w) w) w) w) w) w) [(Go.Value.int Go.IntKind.i64 0)] w) w) w) w) w) w) w) w) w) w) w) w) w) w) w) w) w) w) w) w) w) w) w) w) w) w) w) w) w) w) w
theorem S7.calls (a0 : Value) (R : Value → World → Prop) (w : World) (h : S7 a0 R w) : Calls Try.prog 7 #[a0] w fun e w' => ∃ v, e = .returned v ∧ R v w' :=
  calls_of_tr (n := 130) (c := bodyOf Try.f7) (.two .leaf (.two (.two .leaf (.two (.two .leaf .leaf) .leaf)) (.two (.two .leaf (.two (.two .leaf .leaf) .leaf)) (.two .leaf (.two .leaf (.two .leaf (.two .leaf (.two (.two .leaf (.two .leaf (.two (.two .leaf .leaf) .leaf))) (.two (.two .leaf (.one (.loop [7] (.two (.two .leaf (.two .leaf .leaf)) (.two (.one (.drawL [(true, 0), (true, 1), (true, 2), (true, 3), (true, 4), (true, 5), (true, 6), (true, 7), (true, 8), (true, 9), (true, 10), (true, 11)] 12)) .leaf))))) (.two .leaf (.two .leaf (.two (.two .leaf (.one (.loop [10] (.two (.two .leaf (.two .leaf .leaf)) (.two (.one (.drawL [(true, 0), (true, 1), (true, 2), (true, 3), (true, 4), (true, 5), (true, 6), (true, 7), (true, 8), (true, 9), (true, 10), (true, 11)] 12)) .leaf))))) (.two .leaf (.two (.two .leaf (.one (.loop [13] (.two (.two .leaf (.two .leaf .leaf)) (.two (.one (.drawL [(true, 0), (true, 1), (true, 2), (true, 3), (true, 4), (true, 5), (true, 6), (true, 7), (true, 8), (true, 9), (true, 10), (true, 11)] 12)) .leaf))))) (.two .leaf (.two .leaf .leaf)))))))))))))))) Try.func7 (by kernel_rfl) Try.ntmps7 (by kernel_rfl) (by kernel_rfl) [a0] (by kernel_rfl) (of_eq_ (by kernel_rfl) h)

/-- shelfmark/shelfmarklaw14.awake -/
def S28 (R : Value → World → Prop) (w : World) : Prop :=
  CallP Try.prog 29 #[] (fun v8 w =>
  LiftP Try.prog (binS Go.BinOp.eql 52 (Go.Operand.tmp 9) (Go.Operand.const (Go.Value.pointer none)) v8 (Go.Value.pointer none)) (fun v10 w =>
  CondP v10 (fun w =>
    R (Go.Value.bool false) w) (fun w =>
    LiftP Try.prog (Instr.build 58 #[(7, (Go.Value.string { data := #[97] }))]) (fun v13 w =>
  CallP Try.prog 30 #[v8, v13] (fun v14 w =>
  LiftP Try.prog (Instr.extract v14 0) (fun v15 w =>
  LiftP Try.prog (Instr.extract v14 1) (fun v16 w =>
  CallP Try.prog 31 #[v8, (Go.Value.int Go.IntKind.i64 1)] (fun v19 w =>
  LiftP Try.prog (Instr.extract v19 0) (fun v20 w =>
  LiftP Try.prog (Instr.extract v19 1) (fun v21 w =>
  CallP Try.prog 33 #[v8, (Go.Value.int Go.IntKind.i64 1)] (fun v24 w =>
  LiftP Try.prog (Instr.extract v24 0) (fun v25 w =>
  LiftP Try.prog (Instr.extract v24 1) (fun v26 w =>
  LiftP Try.prog (Instr.alloc 58 true (.tuple #[])) (fun v6 w =>
  LiftU Try.prog (Instr.storeAt 58 v6 v25) (fun v_ w =>
  LiftP Try.prog (binS Go.BinOp.eql 3 (Go.Operand.tmp 27) (Go.Operand.const (Go.Value.int Go.IntKind.i64 1)) v15 (Go.Value.int Go.IntKind.i64 1)) (fun v28 w =>
  GuardP v28 true (fun K w => K v20 w) (fun v30 w =>
  GuardP v28 true (fun K w => LiftP Try.prog (binS Go.BinOp.eql 3 (Go.Operand.tmp 30) (Go.Operand.const (Go.Value.int Go.IntKind.i64 2)) v30 (Go.Value.int Go.IntKind.i64 2)) K w) (fun v31 w =>
  PickP v28 v31 (Go.Value.bool false) (fun v32 w =>
  GuardP v32 true (fun K w => K v16 w) (fun v34 w =>
  GuardP v32 true (fun K w => LiftP Try.prog (binS Go.BinOp.eql 25 (Go.Operand.tmp 34) (Go.Operand.const (Go.Value.int Go.IntKind.i64 0)) v34 (Go.Value.int Go.IntKind.i64 0)) K w) (fun v35 w =>
  PickP v32 v35 (Go.Value.bool false) (fun v36 w =>
  GuardP v36 true (fun K w => K v21 w) (fun v38 w =>
  GuardP v36 true (fun K w => LiftP Try.prog (binS Go.BinOp.eql 25 (Go.Operand.tmp 38) (Go.Operand.const (Go.Value.int Go.IntKind.i64 0)) v38 (Go.Value.int Go.IntKind.i64 0)) K w) (fun v39 w =>
  PickP v36 v39 (Go.Value.bool false) (fun v40 w =>
  GuardP v40 true (fun K w => K v26 w) (fun v42 w =>
  GuardP v40 true (fun K w => LiftP Try.prog (binS Go.BinOp.eql 25 (Go.Operand.tmp 42) (Go.Operand.const (Go.Value.int Go.IntKind.i64 0)) v42 (Go.Value.int Go.IntKind.i64 0)) K w) (fun v43 w =>
  PickP v40 v43 (Go.Value.bool false) (fun v44 w =>
  GuardP v44 true (fun K w => LiftP Try.prog (Instr.fieldAt 58 v6 7) K w) (fun v46 w =>
  GuardP v44 true (fun K w => LiftP Try.prog (Instr.loadAt 9 v46) K w) (fun v47 w =>
  GuardP v44 true (fun K w => LiftP Try.prog (binS Go.BinOp.eql 9 (Go.Operand.tmp 47) (Go.Operand.const (Go.Value.string { data := #[97] })) v47 (Go.Value.string { data := #[97] })) K w) (fun v48 w =>
  PickP v44 v48 (Go.Value.bool false) (fun v49 w =>
  GuardP v49 true (fun K w => K v8 w) (fun v51 w =>
  GuardP v49 true (fun K w => CallP Try.prog 32 #[v51] K w) (fun v52 w =>
  GuardP v49 true (fun K w => LiftP Try.prog (binS Go.BinOp.eql 3 (Go.Operand.tmp 52) (Go.Operand.const (Go.Value.int Go.IntKind.i64 1)) v52 (Go.Value.int Go.IntKind.i64 1)) K w) (fun v53 w =>
  PickP v49 v53 (Go.Value.bool false) (fun v54 w =>
  R v54 w) w) w) w) w) w) w) w) w) w) w) w) w) w) w) w) w) w) w) w) w) w) w) w) w) w) w) w) w) w) w) w) w) w) w) w) w
theorem S28.calls (R : Value → World → Prop) (w : World) (h : S28 R w) : Calls Try.prog 28 #[] w fun e w' => ∃ v, e = .returned v ∧ R v w' :=
  calls_of_tr (n := 55) (c := bodyOf Try.f28) (.two .leaf (.two .leaf (.two (.two .leaf (.two (.two .leaf .leaf) .leaf)) (.two .leaf (.two .leaf (.two .leaf (.two .leaf .leaf))))))) Try.func28 (by kernel_rfl) Try.ntmps28 (by kernel_rfl) (by kernel_rfl) [] (by kernel_rfl) (of_eq_ (by kernel_rfl) h)

/-- shelfmark/net.New -/
def S29 (R : Value → World → Prop) (w : World) : Prop :=
  LiftP Try.prog (Instr.makeMap 116 none) (fun v1 w =>
  LiftP Try.prog (Instr.build 118 #[(0, v1)]) (fun v2 w =>
  LiftP Try.prog (Instr.box 118 v2) (fun v3 w =>
  R v3 w) w) w) w
theorem S29.calls (R : Value → World → Prop) (w : World) (h : S29 R w) : Calls Try.prog 29 #[] w fun e w' => ∃ v, e = .returned v ∧ R v w' :=
  calls_of_tr (n := 4) (c := bodyOf Try.f29) (.two .leaf (.two .leaf .leaf)) Try.func29 (by kernel_rfl) Try.ntmps29 (by kernel_rfl) (by kernel_rfl) [] (by kernel_rfl) (of_eq_ (by kernel_rfl) h)

/-- (*shelfmark/net.Net).Send -/
def S30 (a0 a1 : Value) (R : Value → World → Prop) (w : World) : Prop :=
  LiftP Try.prog (Instr.box 58 a1) (fun v3 w =>
  LiftP Try.prog (Instr.loadAt 58 v3) (fun v7 w =>
  CallP Try.prog 59 #[v7] (fun v8 w =>
  LiftP Try.prog (binS Go.BinOp.neq 25 (Go.Operand.tmp 9) (Go.Operand.const (Go.Value.int Go.IntKind.i64 0)) v8 (Go.Value.int Go.IntKind.i64 0)) (fun v10 w =>
  CondP v10 (fun w =>
    R (.tuple #[(Go.Value.int Go.IntKind.i64 0), v8]) w) (fun w =>
    LiftP Try.prog (Instr.loadAt 58 v3) (fun v13 w =>
  CallP Try.prog 60 #[a0, v13] (fun v14 w =>
  LiftP Try.prog (Instr.extract v14 0) (fun v15 w =>
  LiftP Try.prog (Instr.extract v14 1) (fun v16 w =>
  R (.tuple #[v15, v16]) w) w) w) w) w) w) w) w) w) w
theorem S30.calls (a0 a1 : Value) (R : Value → World → Prop) (w : World) (h : S30 a0 a1 R w) : Calls Try.prog 30 #[a0, a1] w fun e w' => ∃ v, e = .returned v ∧ R v w' :=
  calls_of_tr (n := 17) (c := bodyOf Try.f30) (.two .leaf (.two (.two .leaf (.two .leaf (.two (.two .leaf .leaf) .leaf))) (.two .leaf .leaf))) Try.func30 (by kernel_rfl) Try.ntmps30 (by kernel_rfl) (by kernel_rfl) [a0, a1] (by kernel_rfl) (of_eq_ (by kernel_rfl) h)

/-- (*shelfmark/net.Net).Twice -/
def S31 (a0 a1 : Value) (R : Value → World → Prop) (w : World) : Prop :=
  NextP Try.prog (nilChk a0) (fun v10 w =>
  LiftP Try.prog (Instr.fieldAt 118 v10 0) (fun v11 w =>
  LiftP Try.prog (Instr.loadAt 116 v11) (fun v12 w =>
  LiftP Try.prog (Instr.lookup 116 v12 a1 true) (fun v14 w =>
  LiftP Try.prog (Instr.extract v14 0) (fun v15 w =>
  LiftP Try.prog (Instr.extract v14 1) (fun v16 w =>
  LiftP Try.prog (Instr.alloc 58 true (.tuple #[])) (fun v6 w =>
  LiftU Try.prog (Instr.storeAt 58 v6 v15) (fun v_ w =>
  LiftP Try.prog (Op.unary Go.UnOp.not v16) (fun v18 w =>
  CondP v18 (fun w =>
    R (.tuple #[(Go.Value.int Go.IntKind.i64 0), (Go.Value.int Go.IntKind.i64 7)]) w) (fun w =>
    LiftP Try.prog (Instr.loadAt 58 v6) (fun v20 w =>
  CallP Try.prog 60 #[a0, v20] (fun v21 w =>
  LiftP Try.prog (Instr.extract v21 0) (fun v22 w =>
  LiftP Try.prog (Instr.extract v21 1) (fun v23 w =>
  R (.tuple #[v22, v23]) w) w) w) w) w) w) w) w) w) w) w) w) w) w) w
theorem S31.calls (a0 a1 : Value) (R : Value → World → Prop) (w : World) (h : S31 a0 a1 R w) : Calls Try.prog 31 #[a0, a1] w fun e w' => ∃ v, e = .returned v ∧ R v w' :=
  calls_of_tr (n := 24) (c := bodyOf Try.f31) (.two .leaf (.two .leaf (.two (.two .leaf (.two (.two .leaf .leaf) .leaf)) (.two .leaf .leaf)))) Try.func31 (by kernel_rfl) Try.ntmps31 (by kernel_rfl) (by kernel_rfl) [a0, a1] (by kernel_rfl) (of_eq_ (by kernel_rfl) h)

/-- (*shelfmark/net.Net).Len -/
def S32 (a0 : Value) (R : Value → World → Prop) (w : World) : Prop :=
  NextP Try.prog (nilChk a0) (fun v4 w =>
  LiftP Try.prog (Instr.fieldAt 118 v4 0) (fun v5 w =>
  LiftP Try.prog (Instr.loadAt 116 v5) (fun v6 w =>
  NextP Try.prog (builtin Go.Builtin.len #[116] 3 #[false] #[v6]) (fun v7 w =>
  R v7 w) w) w) w) w
theorem S32.calls (a0 : Value) (R : Value → World → Prop) (w : World) (h : S32 a0 R w) : Calls Try.prog 32 #[a0] w fun e w' => ∃ v, e = .returned v ∧ R v w' :=
  calls_of_tr (n := 8) (c := bodyOf Try.f32) (.two .leaf (.two .leaf .leaf)) Try.func32 (by kernel_rfl) Try.ntmps32 (by kernel_rfl) (by kernel_rfl) [a0] (by kernel_rfl) (of_eq_ (by kernel_rfl) h)

/-- (*shelfmark/net.Net).Deliver -/
def S33 (a0 a1 : Value) (R : Value → World → Prop) (w : World) : Prop :=
  LiftP Try.prog (Instr.alloc 58 true (.tuple #[])) (fun v4 w =>
  NextP Try.prog (nilChk a0) (fun v10 w =>
  LiftP Try.prog (Instr.fieldAt 118 v10 0) (fun v11 w =>
  LiftP Try.prog (Instr.loadAt 116 v11) (fun v12 w =>
  LiftP Try.prog (Instr.lookup 116 v12 a1 true) (fun v14 w =>
  LiftP Try.prog (Instr.extract v14 0) (fun v15 w =>
  LiftP Try.prog (Instr.extract v14 1) (fun v16 w =>
  LiftP Try.prog (Instr.alloc 58 true (.tuple #[])) (fun v6 w =>
  LiftU Try.prog (Instr.storeAt 58 v6 v15) (fun v_ w =>
  LiftP Try.prog (Op.unary Go.UnOp.not v16) (fun v18 w =>
  CondP v18 (fun w =>
    LiftP Try.prog (Instr.build 58 #[]) (fun v19 w =>
    LiftU Try.prog (Instr.storeAt 58 v4 v19) (fun v__1 w =>
    RetC Try.prog v4 58 (fun x => R (.tuple #[x, (Go.Value.int Go.IntKind.i64 7)]) w) w) w) w) (fun w =>
    NextP Try.prog (nilChk a0) (fun v21 w =>
  LiftP Try.prog (Instr.fieldAt 118 v21 0) (fun v22 w =>
  LiftP Try.prog (Instr.loadAt 116 v22) (fun v23 w =>
  NextP Try.prog (builtin Go.Builtin.delete #[116, 3] 0 #[false, false] #[v23, a1]) (fun v__2 w =>
  LiftP Try.prog (Instr.loadAt 58 v6) (fun v25 w =>
  LiftU Try.prog (Instr.storeAt 58 v4 v25) (fun v__3 w =>
  RetC Try.prog v4 58 (fun x_1 => R (.tuple #[x_1, (Go.Value.int Go.IntKind.i64 0)]) w) w) w) w) w) w) w) w) w) w) w) w) w) w) w) w) w) w) w
theorem S33.calls (a0 a1 : Value) (R : Value → World → Prop) (w : World) (h : S33 a0 a1 R w) : Calls Try.prog 33 #[a0, a1] w fun e w' => ∃ v, e = .returned v ∧ R v w' :=
  calls_of_tr (n := 26) (c := bodyOf Try.f33) (.two .leaf (.two .leaf (.two (.two .leaf (.two (.two .leaf .leaf) .leaf)) (.two .leaf (.two .leaf .leaf))))) Try.func33 (by kernel_rfl) Try.ntmps33 (by kernel_rfl) (by kernel_rfl) [a0, a1] (by kernel_rfl) (of_eq_ (by kernel_rfl) h)

/-- shelfmark/shelfmarkref13.Light -/
def S34 (a0 : Value) (R : Value → World → Prop) (w : World) : Prop :=
  LiftP Try.prog (Instr.box 58 a0) (fun v1 w =>
  LiftP Try.prog (Instr.fieldAt 58 v1 9) (fun v6 w =>
  LiftP Try.prog (Instr.loadAt 55 v6) (fun v7 w =>
  NextP Try.prog (builtin Go.Builtin.len #[55] 3 #[false] #[v7]) (fun v8 w =>
  LiftP Try.prog (binS Go.BinOp.gtr 3 (Go.Operand.tmp 8) (Go.Operand.const (Go.Value.int Go.IntKind.i64 300)) v8 (Go.Value.int Go.IntKind.i64 300)) (fun v9 w =>
  GuardP v9 false (fun K w => LiftP Try.prog (Instr.fieldAt 58 v1 10) K w) (fun v11 w =>
  GuardP v9 false (fun K w => LiftP Try.prog (Instr.loadAt 56 v11) K w) (fun v12 w =>
  GuardP v9 false (fun K w => NextP Try.prog (builtin Go.Builtin.len #[56] 3 #[false] #[v12]) K w) (fun v13 w =>
  GuardP v9 false (fun K w => LiftP Try.prog (binS Go.BinOp.gtr 3 (Go.Operand.tmp 13) (Go.Operand.const (Go.Value.int Go.IntKind.i64 300)) v13 (Go.Value.int Go.IntKind.i64 300)) K w) (fun v14 w =>
  PickP v9 (Go.Value.bool true) v14 (fun v15 w =>
  CondP v15 (fun w =>
    R (Go.Value.bool false) w) (fun w =>
    LiftP Try.prog (Instr.fieldAt 58 v1 7) (fun v16 w =>
  LiftP Try.prog (Instr.loadAt 9 v16) (fun v17 w =>
  NextP Try.prog (builtin Go.Builtin.len #[9] 3 #[false] #[v17]) (fun v18 w =>
  NextP Try.prog (builtin Go.Builtin.min #[3, 3] 3 #[false, true] #[v18, (Go.Value.int Go.IntKind.i64 100000)]) (fun v19 w =>
  LiftP Try.prog (Instr.fieldAt 58 v1 8) (fun v20 w =>
  LiftP Try.prog (Instr.loadAt 9 v20) (fun v21 w =>
  NextP Try.prog (builtin Go.Builtin.len #[9] 3 #[false] #[v21]) (fun v22 w =>
  NextP Try.prog (builtin Go.Builtin.min #[3, 3] 3 #[false, true] #[v22, (Go.Value.int Go.IntKind.i64 100000)]) (fun v23 w =>
  LiftP Try.prog (binS Go.BinOp.add 3 (Go.Operand.tmp 19) (Go.Operand.tmp 23) v19 v23) (fun v24 w =>
  LiftP Try.prog (Instr.fieldAt 58 v1 13) (fun v25 w =>
  LiftP Try.prog (Instr.loadAt 9 v25) (fun v26 w =>
  NextP Try.prog (builtin Go.Builtin.len #[9] 3 #[false] #[v26]) (fun v27 w =>
  NextP Try.prog (builtin Go.Builtin.min #[3, 3] 3 #[false, true] #[v27, (Go.Value.int Go.IntKind.i64 100000)]) (fun v28 w =>
  LiftP Try.prog (binS Go.BinOp.add 3 (Go.Operand.tmp 24) (Go.Operand.tmp 28) v24 v28) (fun v29 w =>
  LoopP (fun J vs w =>   -- [3, 4]
    LiftP Try.prog (Instr.fieldAt 58 v1 9) (fun v31 w =>
    LiftP Try.prog (Instr.loadAt 55 v31) (fun v32 w =>
    NextP Try.prog (builtin Go.Builtin.len #[55] 3 #[false] #[v32]) (fun v33 w =>
    LiftP Try.prog (binS Go.BinOp.lss 3 (Go.Operand.tmp 30) (Go.Operand.tmp 33) (vs.tail.headD undef) v33) (fun v34 w =>
    GuardP v34 true (fun K w => K (vs.headD undef) w) (fun v36 w =>
    GuardP v34 true (fun K w => LiftP Try.prog (binS Go.BinOp.leq 3 (Go.Operand.tmp 36) (Go.Operand.const (Go.Value.int Go.IntKind.i64 100000)) v36 (Go.Value.int Go.IntKind.i64 100000)) K w) (fun v37 w =>
    PickP v34 v37 (Go.Value.bool false) (fun v38 w =>
    CondP v38 (fun w =>
      DrawP (fun S w =>
    YieldP Try.prog S (Instr.fieldAt 58 v1 9) (fun v42 w =>
    YieldP Try.prog S (Instr.loadAt 55 v42) (fun v43 w =>
    YieldP Try.prog S (Instr.indexAt 55 v43 (vs.tail.headD undef)) (fun v45 w =>
    YieldP Try.prog S (Instr.fieldAt 64 v45 0) (fun v46 w =>
    YieldP Try.prog S (Instr.loadAt 9 v46) (fun v47 w =>
    YieldN Try.prog S (builtin Go.Builtin.len #[9] 3 #[false] #[v47]) (fun v48 w =>
    YieldN Try.prog S (builtin Go.Builtin.min #[3, 3] 3 #[false, true] #[v48, (Go.Value.int Go.IntKind.i64 100001)]) (fun v49 w =>
    YieldP Try.prog S (binS Go.BinOp.add 3 (Go.Operand.tmp 41) (Go.Operand.tmp 49) (vs.headD undef) v49) (fun v50 w =>
    YieldP Try.prog S (Instr.fieldAt 58 v1 9) (fun v51 w =>
    YieldP Try.prog S (Instr.loadAt 55 v51) (fun v52 w =>
    YieldP Try.prog S (Instr.indexAt 55 v52 (vs.tail.headD undef)) (fun v54 w =>
    YieldP Try.prog S (Instr.fieldAt 64 v54 1) (fun v55 w =>
    YieldP Try.prog S (Instr.loadAt 9 v55) (fun v56 w =>
    YieldN Try.prog S (builtin Go.Builtin.len #[9] 3 #[false] #[v56]) (fun v57 w =>
    YieldN Try.prog S (builtin Go.Builtin.min #[3, 3] 3 #[false, true] #[v57, (Go.Value.int Go.IntKind.i64 100001)]) (fun v58 w =>
    YieldP Try.prog S (binS Go.BinOp.add 3 (Go.Operand.tmp 50) (Go.Operand.tmp 58) v50 v58) (fun v59 w =>
    LiftP Try.prog (binS Go.BinOp.add 3 (Go.Operand.tmp 39) (Go.Operand.const (Go.Value.int Go.IntKind.i64 1)) (vs.tail.headD undef) (Go.Value.int Go.IntKind.i64 1)) (fun v40 w =>
    J [v59, v40] w) w) w) w) w) w) w) w) w) w) w) w) w) w) w) w) w) w) w) (fun w =>
      LoopP (fun J_1 vs_1 w =>   -- [3, 5]
    LiftP Try.prog (Instr.fieldAt 58 v1 10) (fun v61 w =>
    LiftP Try.prog (Instr.loadAt 56 v61) (fun v62 w =>
    NextP Try.prog (builtin Go.Builtin.len #[56] 3 #[false] #[v62]) (fun v63 w =>
    LiftP Try.prog (binS Go.BinOp.lss 3 (Go.Operand.tmp 60) (Go.Operand.tmp 63) (vs_1.tail.headD undef) v63) (fun v64 w =>
    GuardP v64 true (fun K w => K (vs_1.headD undef) w) (fun v66 w =>
    GuardP v64 true (fun K w => LiftP Try.prog (binS Go.BinOp.leq 3 (Go.Operand.tmp 66) (Go.Operand.const (Go.Value.int Go.IntKind.i64 100000)) v66 (Go.Value.int Go.IntKind.i64 100000)) K w) (fun v67 w =>
    PickP v64 v67 (Go.Value.bool false) (fun v68 w =>
    CondP v68 (fun w =>
      LiftP Try.prog (Instr.fieldAt 58 v1 10) (fun v72 w =>
    LiftP Try.prog (Instr.loadAt 56 v72) (fun v73 w =>
    LiftP Try.prog (Instr.indexAt 56 v73 (vs_1.tail.headD undef)) (fun v75 w =>
    LiftP Try.prog (Instr.fieldAt 68 v75 0) (fun v76 w =>
    LiftP Try.prog (Instr.loadAt 9 v76) (fun v77 w =>
    NextP Try.prog (builtin Go.Builtin.len #[9] 3 #[false] #[v77]) (fun v78 w =>
    NextP Try.prog (builtin Go.Builtin.min #[3, 3] 3 #[false, true] #[v78, (Go.Value.int Go.IntKind.i64 100001)]) (fun v79 w =>
    LiftP Try.prog (binS Go.BinOp.add 3 (Go.Operand.tmp 71) (Go.Operand.tmp 79) (vs_1.headD undef) v79) (fun v80 w =>
    LiftP Try.prog (binS Go.BinOp.add 3 (Go.Operand.tmp 69) (Go.Operand.const (Go.Value.int Go.IntKind.i64 1)) (vs_1.tail.headD undef) (Go.Value.int Go.IntKind.i64 1)) (fun v70 w =>
    J_1 [v80, v70] w) w) w) w) w) w) w) w) w) w) (fun w =>
      LiftP Try.prog (binS Go.BinOp.leq 3 (Go.Operand.tmp 81) (Go.Operand.const (Go.Value.int Go.IntKind.i64 100000)) (vs_1.headD undef) (Go.Value.int Go.IntKind.i64 100000)) (fun v82 w =>
  R v82 w) w) w) w) w) w) w) w) w) w) [(vs.headD undef), (Go.Value.int Go.IntKind.i64 0)] w) w) w) w) w) w) w) w) w) [v29, (Go.Value.int Go.IntKind.i64 0)] w) w) w) w) w) w) w) w) w) w) w) w) w) w) w) w) w) w) w) w) w) w) w) w) w) w
theorem S34.calls (a0 : Value) (R : Value → World → Prop) (w : World) (h : S34 a0 R w) : Calls Try.prog 34 #[a0] w fun e w' => ∃ v, e = .returned v ∧ R v w' :=
  calls_of_tr (n := 83) (c := bodyOf Try.f34) (.two .leaf (.two (.two .leaf (.two (.two .leaf .leaf) .leaf)) (.two .leaf (.two (.two .leaf (.one (.loop [3, 4] (.two (.two .leaf (.two .leaf .leaf)) (.two (.one (.draw [(true, 0), (true, 1), (true, 2), (true, 3), (true, 4), (true, 5), (true, 6), (true, 7), (true, 8), (true, 9), (true, 10), (true, 11), (true, 12), (true, 13), (true, 14), (true, 15), (true, 16), (true, 17), (true, 18), (true, 19)])) .leaf))))) (.two (.two .leaf (.one (.loop [3, 5] (.two (.two .leaf (.two .leaf .leaf)) (.two (.one .leaf) .leaf))))) (.two .leaf .leaf)))))) Try.func34 (by kernel_rfl) Try.ntmps34 (by kernel_rfl) (by kernel_rfl) [a0] (by kernel_rfl) (of_eq_ (by kernel_rfl) h)

/-- (*shelfmark/net.Net).Look -/
def S35 (a0 a1 : Value) (R : Value → World → Prop) (w : World) : Prop :=
  LiftP Try.prog (Instr.alloc 58 true (.tuple #[])) (fun v4 w =>
  NextP Try.prog (nilChk a0) (fun v10 w =>
  LiftP Try.prog (Instr.fieldAt 118 v10 0) (fun v11 w =>
  LiftP Try.prog (Instr.loadAt 116 v11) (fun v12 w =>
  LiftP Try.prog (Instr.lookup 116 v12 a1 true) (fun v14 w =>
  LiftP Try.prog (Instr.extract v14 0) (fun v15 w =>
  LiftP Try.prog (Instr.extract v14 1) (fun v16 w =>
  LiftP Try.prog (Instr.alloc 58 true (.tuple #[])) (fun v6 w =>
  LiftU Try.prog (Instr.storeAt 58 v6 v15) (fun v_ w =>
  LiftP Try.prog (Instr.loadAt 58 v6) (fun v17 w =>
  CallP Try.prog 61 #[v17] (fun v18 w =>
  LiftU Try.prog (Instr.storeAt 58 v4 v18) (fun v__1 w =>
  RetC Try.prog v4 58 (fun x => R (.tuple #[x, v16]) w) w) w) w) w) w) w) w) w) w) w) w) w) w
theorem S35.calls (a0 a1 : Value) (R : Value → World → Prop) (w : World) (h : S35 a0 a1 R w) : Calls Try.prog 35 #[a0, a1] w fun e w' => ∃ v, e = .returned v ∧ R v w' :=
  calls_of_tr (n := 20) (c := bodyOf Try.f35) (.two .leaf (.two .leaf (.two .leaf .leaf))) Try.func35 (by kernel_rfl) Try.ntmps35 (by kernel_rfl) (by kernel_rfl) [a0, a1] (by kernel_rfl) (of_eq_ (by kernel_rfl) h)

/-- shelfmark/shelfmarkref13.Same -/
def S36 (a0 a1 : Value) (R : Value → World → Prop) (w : World) : Prop :=
  LiftP Try.prog (Instr.box 58 a0) (fun v2 w =>
  LiftP Try.prog (Instr.box 58 a1) (fun v3 w =>
  LiftP Try.prog (Instr.fieldAt 58 v2 9) (fun v9 w =>
  LiftP Try.prog (Instr.loadAt 55 v9) (fun v10 w =>
  NextP Try.prog (builtin Go.Builtin.len #[55] 3 #[false] #[v10]) (fun v11 w =>
  LiftP Try.prog (Instr.fieldAt 58 v3 9) (fun v12 w =>
  LiftP Try.prog (Instr.loadAt 55 v12) (fun v13 w =>
  NextP Try.prog (builtin Go.Builtin.len #[55] 3 #[false] #[v13]) (fun v14 w =>
  LiftP Try.prog (binS Go.BinOp.neq 3 (Go.Operand.tmp 11) (Go.Operand.tmp 14) v11 v14) (fun v15 w =>
  GuardP v15 false (fun K w => LiftP Try.prog (Instr.fieldAt 58 v2 10) K w) (fun v17 w =>
  GuardP v15 false (fun K w => LiftP Try.prog (Instr.loadAt 56 v17) K w) (fun v18 w =>
  GuardP v15 false (fun K w => LiftP Try.prog (Instr.fieldAt 58 v3 10) K w) (fun v19 w =>
  GuardP v15 false (fun K w => LiftP Try.prog (Instr.loadAt 56 v19) K w) (fun v20 w =>
  GuardP v15 false (fun K w => CallP Try.prog 62 #[v18, v20] K w) (fun v21 w =>
  GuardP v15 false (fun K w => LiftP Try.prog (Op.unary Go.UnOp.not v21) K w) (fun v22 w =>
  PickP v15 (Go.Value.bool true) v22 (fun v23 w =>
  CondP v23 (fun w =>
    R (Go.Value.bool false) w) (fun w =>
    LoopP (fun J vs w =>   -- [5]
    LiftP Try.prog (Instr.fieldAt 58 v2 9) (fun v25 w =>
    LiftP Try.prog (Instr.loadAt 55 v25) (fun v26 w =>
    NextP Try.prog (builtin Go.Builtin.len #[55] 3 #[false] #[v26]) (fun v27 w =>
    LiftP Try.prog (binS Go.BinOp.lss 3 (Go.Operand.tmp 24) (Go.Operand.tmp 27) (vs.headD undef) v27) (fun v28 w =>
    CondP v28 (fun w =>
      DrawP (fun S w =>
    YieldP Try.prog S (Instr.fieldAt 58 v2 9) (fun v31 w =>
    YieldP Try.prog S (Instr.loadAt 55 v31) (fun v32 w =>
    YieldP Try.prog S (Instr.indexAt 55 v32 (vs.headD undef)) (fun v34 w =>
    YieldP Try.prog S (Instr.loadAt 64 v34) (fun v35 w =>
    YieldP Try.prog S (Instr.fieldAt 58 v3 9) (fun v36 w =>
    YieldP Try.prog S (Instr.loadAt 55 v36) (fun v37 w =>
    YieldP Try.prog S (Instr.indexAt 55 v37 (vs.headD undef)) (fun v39 w =>
    YieldP Try.prog S (Instr.loadAt 64 v39) (fun v40 w =>
    YieldP Try.prog S (binS Go.BinOp.neq 64 (Go.Operand.tmp 35) (Go.Operand.tmp 40) v35 v40) (fun v41 w =>
    CondP v41 (fun w =>
      R (Go.Value.bool false) w) (fun w =>
      LiftP Try.prog (binS Go.BinOp.add 3 (Go.Operand.tmp 29) (Go.Operand.const (Go.Value.int Go.IntKind.i64 1)) (vs.headD undef) (Go.Value.int Go.IntKind.i64 1)) (fun v30 w =>
    J [v30] w) w) w) w) w) w) w) w) w) w) w) w) w) (fun w =>
      DrawP (fun S w =>
  YieldP Try.prog S (Instr.loadAt 58 v2) (fun v42 w =>
  YieldP Try.prog S (Instr.loadAt 58 v3) (fun v44 w =>
  ActP S (fun K w => CallP Try.prog 63 #[v42] K w) (fun S v43 w =>
  ActP S (fun K w => CallP Try.prog 63 #[v44] K w) (fun S v45 w =>
  LoopP (fun J_1 vs_1 w =>   -- [8]
    NextP Try.prog (builtin Go.Builtin.len #[81] 3 #[false] #[v43]) (fun v48 w =>
    LiftP Try.prog (binS Go.BinOp.lss 3 (Go.Operand.tmp 46) (Go.Operand.tmp 48) (vs_1.headD undef) v48) (fun v49 w =>
    CondP v49 (fun w =>
      DrawP (fun S w =>
    YieldP Try.prog S (Instr.indexAt 81 v43 (vs_1.headD undef)) (fun v54 w =>
    YieldP Try.prog S (Instr.loadAt 3 v54) (fun v55 w =>
    YieldP Try.prog S (Instr.indexAt 81 v45 (vs_1.headD undef)) (fun v58 w =>
    YieldP Try.prog S (Instr.loadAt 3 v58) (fun v59 w =>
    YieldP Try.prog S (binS Go.BinOp.neq 3 (Go.Operand.tmp 55) (Go.Operand.tmp 59) v55 v59) (fun v60 w =>
    CondP v60 (fun w =>
      R (Go.Value.bool false) w) (fun w =>
      LiftP Try.prog (binS Go.BinOp.add 3 (Go.Operand.tmp 50) (Go.Operand.const (Go.Value.int Go.IntKind.i64 1)) (vs_1.headD undef) (Go.Value.int Go.IntKind.i64 1)) (fun v51 w =>
    J_1 [v51] w) w) w) w) w) w) w) w) w) (fun w =>
      LiftP Try.prog (Instr.fieldAt 58 v2 0) (fun v61 w =>
  LiftP Try.prog (Instr.loadAt 3 v61) (fun v62 w =>
  LiftP Try.prog (Instr.fieldAt 58 v3 0) (fun v63 w =>
  LiftP Try.prog (Instr.loadAt 3 v63) (fun v64 w =>
  LiftP Try.prog (binS Go.BinOp.eql 3 (Go.Operand.tmp 62) (Go.Operand.tmp 64) v62 v64) (fun v65 w =>
  GuardP v65 true (fun K w => LiftP Try.prog (Instr.fieldAt 58 v2 12) K w) (fun v67 w =>
  GuardP v65 true (fun K w => LiftP Try.prog (Instr.loadAt 4 v67) K w) (fun v68 w =>
  GuardP v65 true (fun K w => LiftP Try.prog (Instr.fieldAt 58 v3 12) K w) (fun v69 w =>
  GuardP v65 true (fun K w => LiftP Try.prog (Instr.loadAt 4 v69) K w) (fun v70 w =>
  GuardP v65 true (fun K w => LiftP Try.prog (binS Go.BinOp.eql 4 (Go.Operand.tmp 68) (Go.Operand.tmp 70) v68 v70) K w) (fun v71 w =>
  PickP v65 v71 (Go.Value.bool false) (fun v72 w =>
  GuardP v72 true (fun K w => LiftP Try.prog (Instr.fieldAt 58 v2 7) K w) (fun v74 w =>
  GuardP v72 true (fun K w => LiftP Try.prog (Instr.loadAt 9 v74) K w) (fun v75 w =>
  GuardP v72 true (fun K w => LiftP Try.prog (Instr.fieldAt 58 v3 7) K w) (fun v76 w =>
  GuardP v72 true (fun K w => LiftP Try.prog (Instr.loadAt 9 v76) K w) (fun v77 w =>
  GuardP v72 true (fun K w => LiftP Try.prog (binS Go.BinOp.eql 9 (Go.Operand.tmp 75) (Go.Operand.tmp 77) v75 v77) K w) (fun v78 w =>
  PickP v72 v78 (Go.Value.bool false) (fun v79 w =>
  GuardP v79 true (fun K w => LiftP Try.prog (Instr.fieldAt 58 v2 8) K w) (fun v81 w =>
  GuardP v79 true (fun K w => LiftP Try.prog (Instr.loadAt 9 v81) K w) (fun v82 w =>
  GuardP v79 true (fun K w => LiftP Try.prog (Instr.fieldAt 58 v3 8) K w) (fun v83 w =>
  GuardP v79 true (fun K w => LiftP Try.prog (Instr.loadAt 9 v83) K w) (fun v84 w =>
  GuardP v79 true (fun K w => LiftP Try.prog (binS Go.BinOp.eql 9 (Go.Operand.tmp 82) (Go.Operand.tmp 84) v82 v84) K w) (fun v85 w =>
  PickP v79 v85 (Go.Value.bool false) (fun v86 w =>
  GuardP v86 true (fun K w => LiftP Try.prog (Instr.fieldAt 58 v2 13) K w) (fun v88 w =>
  GuardP v86 true (fun K w => LiftP Try.prog (Instr.loadAt 9 v88) K w) (fun v89 w =>
  GuardP v86 true (fun K w => LiftP Try.prog (Instr.fieldAt 58 v3 13) K w) (fun v90 w =>
  GuardP v86 true (fun K w => LiftP Try.prog (Instr.loadAt 9 v90) K w) (fun v91 w =>
  GuardP v86 true (fun K w => LiftP Try.prog (binS Go.BinOp.eql 9 (Go.Operand.tmp 89) (Go.Operand.tmp 91) v89 v91) K w) (fun v92 w =>
  PickP v86 v92 (Go.Value.bool false) (fun v93 w =>
  R v93 w) w) w) w) w) w) w) w) w) w) w) w) w) w) w) w) w) w) w) w) w) w) w) w) w) w) w) w) w) w) w) w) w) [(Go.Value.int Go.IntKind.i64 0)] w) w) w) w) w) w) w) w) w) w) w) [(Go.Value.int Go.IntKind.i64 0)] w) w) w) w) w) w) w) w) w) w) w) w) w) w) w) w) w) w
theorem S36.calls (a0 a1 : Value) (R : Value → World → Prop) (w : World) (h : S36 a0 a1 R w) : Calls Try.prog 36 #[a0, a1] w fun e w' => ∃ v, e = .returned v ∧ R v w' :=
  calls_of_tr (n := 94) (c := bodyOf Try.f36) (.two .leaf (.two (.two .leaf (.two (.two .leaf .leaf) .leaf)) (.two (.two .leaf (.one (.loop [5] (.two (.two .leaf (.two .leaf .leaf)) (.two (.one (.two (.draw [(true, 0), (true, 1), (true, 2), (true, 3), (true, 4), (true, 5), (true, 6), (true, 7), (true, 8), (true, 9), (true, 10)]) (.two (.two .leaf .leaf) .leaf))) .leaf))))) (.two (.draw [(true, 0), (true, 2), (false, 1), (false, 3), (true, 4), (true, 5)]) (.two (.two .leaf (.one (.loop [8] (.two (.two .leaf (.two .leaf .leaf)) (.two (.one (.two (.draw [(true, 0), (true, 1), (true, 2), (true, 3), (true, 4), (true, 5), (true, 6), (true, 7), (true, 8)]) (.two (.two .leaf .leaf) .leaf))) .leaf))))) (.two .leaf .leaf)))))) Try.func36 (by kernel_rfl) Try.ntmps36 (by kernel_rfl) (by kernel_rfl) [a0, a1] (by kernel_rfl) (of_eq_ (by kernel_rfl) h)

/-- (*shelfmark/net.Net).Drop -/
def S39 (a0 a1 : Value) (R : Value → World → Prop) (w : World) : Prop :=
  CallP Try.prog 33 #[a0, a1] (fun v10 w =>
  LiftP Try.prog (Instr.extract v10 0) (fun v11 w =>
  LiftP Try.prog (Instr.extract v10 1) (fun v12 w =>
  LiftP Try.prog (Instr.alloc 58 true (.tuple #[])) (fun v5 w =>
  LiftU Try.prog (Instr.storeAt 58 v5 v11) (fun v_ w =>
  R v12 w) w) w) w) w) w
theorem S39.calls (a0 a1 : Value) (R : Value → World → Prop) (w : World) (h : S39 a0 a1 R w) : Calls Try.prog 39 #[a0, a1] w fun e w' => ∃ v, e = .returned v ∧ R v w' :=
  calls_of_tr (n := 14) (c := bodyOf Try.f39) (.two .leaf (.two .leaf (.two .leaf .leaf))) Try.func39 (by kernel_rfl) Try.ntmps39 (by kernel_rfl) (by kernel_rfl) [a0, a1] (by kernel_rfl) (of_eq_ (by kernel_rfl) h)

/-- (*shelfmark/net.Net).add -/
def S60 (a0 a1 : Value) (R : Value → World → Prop) (w : World) : Prop :=
  LiftP Try.prog (Instr.box 58 a1) (fun v3 w =>
  NextP Try.prog (nilChk a0) (fun v7 w =>
  LiftP Try.prog (Instr.fieldAt 118 v7 0) (fun v8 w =>
  LiftP Try.prog (Instr.loadAt 116 v8) (fun v9 w =>
  NextP Try.prog (builtin Go.Builtin.len #[116] 3 #[false] #[v9]) (fun v10 w =>
  LiftP Try.prog (binS Go.BinOp.geq 3 (Go.Operand.tmp 10) (Go.Operand.const (Go.Value.int Go.IntKind.i64 4096)) v10 (Go.Value.int Go.IntKind.i64 4096)) (fun v11 w =>
  CondP v11 (fun w =>
    R (.tuple #[(Go.Value.int Go.IntKind.i64 0), (Go.Value.int Go.IntKind.i64 17)]) w) (fun w =>
    NextP Try.prog (nilChk a0) (fun v13 w =>
  LiftP Try.prog (Instr.fieldAt 118 v13 1) (fun v14 w =>
  LiftP Try.prog (Instr.loadAt 3 v14) (fun v15 w =>
  LiftP Try.prog (binS Go.BinOp.add 3 (Go.Operand.tmp 15) (Go.Operand.const (Go.Value.int Go.IntKind.i64 1)) v15 (Go.Value.int Go.IntKind.i64 1)) (fun v16 w =>
  NextP Try.prog (nilChk a0) (fun v17 w =>
  LiftP Try.prog (Instr.fieldAt 118 v17 1) (fun v18 w =>
  LiftU Try.prog (Instr.storeAt 3 v18 v16) (fun v_ w =>
  DrawP (fun S w =>
  YieldN Try.prog S (nilChk a0) (fun v20 w =>
  YieldP Try.prog S (Instr.fieldAt 118 v20 0) (fun v21 w =>
  YieldP Try.prog S (Instr.loadAt 116 v21) (fun v22 w =>
  YieldN Try.prog S (nilChk a0) (fun v24 w =>
  YieldP Try.prog S (Instr.fieldAt 118 v24 1) (fun v25 w =>
  YieldP Try.prog S (Instr.loadAt 3 v25) (fun v26 w =>
  YieldP Try.prog S (Instr.loadAt 58 v3) (fun v27 w =>
  ActP S (fun K w => CallP Try.prog 61 #[v27] K w) (fun S v28 w =>
  LiftU Try.prog (Instr.mapUpdate 116 v22 v26 v28) (fun v__1 w =>
  NextP Try.prog (nilChk a0) (fun v30 w =>
  LiftP Try.prog (Instr.fieldAt 118 v30 1) (fun v31 w =>
  LiftP Try.prog (Instr.loadAt 3 v31) (fun v32 w =>
  R (.tuple #[v32, (Go.Value.int Go.IntKind.i64 0)]) w) w) w) w) w) w) w) w) w) w) w) w) w) w) w) w) w) w) w) w) w) w) w) w) w) w) w) w
theorem S60.calls (a0 a1 : Value) (R : Value → World → Prop) (w : World) (h : S60 a0 a1 R w) : Calls Try.prog 60 #[a0, a1] w fun e w' => ∃ v, e = .returned v ∧ R v w' :=
  calls_of_tr (n := 33) (c := bodyOf Try.f60) (.two .leaf (.two (.two .leaf (.two (.two .leaf .leaf) .leaf)) (.two .leaf (.two (.drawL [(true, 0), (true, 1), (true, 2), (true, 3), (true, 4), (true, 5), (true, 6), (true, 7), (true, 8), (false, 9)] 10) (.two .leaf .leaf))))) Try.func60 (by kernel_rfl) Try.ntmps60 (by kernel_rfl) (by kernel_rfl) [a0, a1] (by kernel_rfl) (of_eq_ (by kernel_rfl) h)

/-- shelfmark/shelfmarkref13.SameIntents -/
def S62 (a0 a1 : Value) (R : Value → World → Prop) (w : World) : Prop :=
  NextP Try.prog (builtin Go.Builtin.len #[56] 3 #[false] #[a0]) (fun v7 w =>
  NextP Try.prog (builtin Go.Builtin.len #[56] 3 #[false] #[a1]) (fun v9 w =>
  LiftP Try.prog (binS Go.BinOp.neq 3 (Go.Operand.tmp 7) (Go.Operand.tmp 9) v7 v9) (fun v10 w =>
  CondP v10 (fun w =>
    R (Go.Value.bool false) w) (fun w =>
    LoopP (fun J vs w =>   -- [5]
    NextP Try.prog (builtin Go.Builtin.len #[56] 3 #[false] #[a0]) (fun v13 w =>
    LiftP Try.prog (binS Go.BinOp.lss 3 (Go.Operand.tmp 11) (Go.Operand.tmp 13) (vs.headD undef) v13) (fun v14 w =>
    CondP v14 (fun w =>
      DrawP (fun S w =>
    YieldP Try.prog S (Instr.indexAt 56 a0 (vs.headD undef)) (fun v19 w =>
    YieldP Try.prog S (Instr.loadAt 68 v19) (fun v20 w =>
    YieldP Try.prog S (Instr.indexAt 56 a1 (vs.headD undef)) (fun v23 w =>
    YieldP Try.prog S (Instr.loadAt 68 v23) (fun v24 w =>
    YieldP Try.prog S (binS Go.BinOp.neq 68 (Go.Operand.tmp 20) (Go.Operand.tmp 24) v20 v24) (fun v25 w =>
    CondP v25 (fun w =>
      R (Go.Value.bool false) w) (fun w =>
      LiftP Try.prog (binS Go.BinOp.add 3 (Go.Operand.tmp 15) (Go.Operand.const (Go.Value.int Go.IntKind.i64 1)) (vs.headD undef) (Go.Value.int Go.IntKind.i64 1)) (fun v16 w =>
    J [v16] w) w) w) w) w) w) w) w) w) (fun w =>
      R (Go.Value.bool true) w) w) w) w) [(Go.Value.int Go.IntKind.i64 0)] w) w) w) w) w
theorem S62.calls (a0 a1 : Value) (R : Value → World → Prop) (w : World) (h : S62 a0 a1 R w) : Calls Try.prog 62 #[a0, a1] w fun e w' => ∃ v, e = .returned v ∧ R v w' :=
  calls_of_tr (n := 26) (c := bodyOf Try.f62) (.two .leaf (.two (.two .leaf (.two (.two .leaf .leaf) .leaf)) (.two (.two .leaf (.one (.loop [5] (.two (.two .leaf (.two .leaf .leaf)) (.two (.one (.two (.draw [(true, 0), (true, 1), (true, 2), (true, 3), (true, 4), (true, 5), (true, 6), (true, 7), (true, 8)]) (.two (.two .leaf .leaf) .leaf))) .leaf))))) (.two .leaf .leaf)))) Try.func62 (by kernel_rfl) Try.ntmps62 (by kernel_rfl) (by kernel_rfl) [a0, a1] (by kernel_rfl) (of_eq_ (by kernel_rfl) h)

end Go.Proofs.Ythicbfopjakiiaa.E
