import Derived.Test.YtcihbjempijhpaaM1
import Derived.Test.YtcihbjempijhpaaProg
import Derived.KernelRfl
namespace Go.Proofs.Ytcihbjempijhpaa.E
open Go
set_option maxRecDepth 100000

/-- shelfmark/shelfmarklaw11.SpanMeets -/
def S3 (a0 a1 a2 : Value) (R : Value → World → Prop) (w : World) : Prop :=
  LiftP Try.prog (Instr.box 23 a0) (fun v3 w =>
  LiftP Try.prog (Instr.box 23 a1) (fun v4 w =>
  CallP Try.prog 10 #[] (fun v11 w =>
  LiftP Try.prog (Op.unary Go.UnOp.not v11) (fun v12 w =>
  CondP v12 (fun w =>
    R (Go.Value.bool false) w) (fun w =>
    LiftP Try.prog (Instr.loadAt 23 v3) (fun v13 w =>
  LiftP Try.prog (Instr.loadAt 23 v4) (fun v14 w =>
  LiftP Try.prog (Instr.buildSlice 26 2 #[(0, v13), (1, v14)]) (fun v15 w =>
  CallP Try.prog 11 #[v15, (Go.Value.int Go.IntKind.i64 2)] (fun v16 w =>
  LiftP Try.prog (Op.unary Go.UnOp.not v16) (fun v17 w =>
  GuardP v17 false (fun K w => K a2 w) (fun v19 w =>
  GuardP v17 false (fun K w => NextP Try.prog (builtin Go.Builtin.len #[9] 3 #[false] #[v19]) K w) (fun v20 w =>
  GuardP v17 false (fun K w => LiftP Try.prog (binS Go.BinOp.gtr 3 (Go.Operand.tmp 20) (Go.Operand.const (Go.Value.int Go.IntKind.i64 200)) v20 (Go.Value.int Go.IntKind.i64 200)) K w) (fun v21 w =>
  PickP v17 (Go.Value.bool true) v21 (fun v22 w =>
  CondP v22 (fun w =>
    R (Go.Value.bool true) w) (fun w =>
    LiftP Try.prog (Instr.loadAt 23 v3) (fun v24 w =>
  LiftP Try.prog (Instr.loadAt 23 v4) (fun v25 w =>
  CallP Try.prog 12 #[v24, v25] (fun v26 w =>
  LiftP Try.prog (Instr.extract v26 0) (fun v27 w =>
  LiftP Try.prog (Instr.extract v26 1) (fun v28 w =>
  LiftP Try.prog (Instr.alloc 23 true (.tuple #[])) (fun v7 w =>
  LiftU Try.prog (Instr.storeAt 23 v7 v27) (fun v_ w =>
  LiftP Try.prog (Instr.loadAt 23 v3) (fun v30 w =>
  LiftP Try.prog (Instr.loadAt 23 v4) (fun v31 w =>
  CallP Try.prog 13 #[v30, v31] (fun v32 w =>
  LiftP Try.prog (Instr.extract v32 0) (fun v33 w =>
  LiftP Try.prog (Instr.extract v32 1) (fun v34 w =>
  LiftP Try.prog (Instr.alloc 23 true (.tuple #[])) (fun v9 w =>
  LiftU Try.prog (Instr.storeAt 23 v9 v33) (fun v__1 w =>
  DrawP (fun S w =>
  YieldP Try.prog S (Instr.loadAt 23 v3) (fun v35 w =>
  YieldP Try.prog S (Instr.loadAt 23 v3) (fun v37 w =>
  ActP S (fun K w => CallP Try.prog 14 #[v35] K w) (fun S v36 w =>
  ActP S (fun K w => CallP Try.prog 15 #[v37] K w) (fun S v38 w =>
  YieldP Try.prog S (binS Go.BinOp.eql 4 (Go.Operand.tmp 36) (Go.Operand.tmp 38) v36 v38) (fun v39 w =>
  GuardP v39 true (fun K w => YieldP Try.prog S (Instr.loadAt 23 v3) K w) (fun v41 w =>
  GuardP v39 true (fun K w => K a2 w) (fun v42 w =>
  GuardP v39 true (fun K w => YieldP Try.prog S (Instr.loadAt 23 v3) K w) (fun v44 w =>
  GuardP v39 true (fun K w => K a2 w) (fun v45 w =>
  GuardA v39 true S (fun K w => CallP Try.prog 16 #[v41, v42] K w) (fun S v43 w =>
  GuardA v39 true S (fun K w => CallP Try.prog 17 #[v44, v45] K w) (fun S v46 w =>
  GuardP v39 true (fun K w => YieldP Try.prog S (binS Go.BinOp.eql 4 (Go.Operand.tmp 43) (Go.Operand.tmp 46) v43 v46) K w) (fun v47 w =>
  PickP v39 v47 (Go.Value.bool false) (fun v48 w =>
  GuardP v48 true (fun K w => YieldP Try.prog S (Instr.loadAt 23 v7) K w) (fun v50 w =>
  GuardP v48 true (fun K w => YieldP Try.prog S (Instr.loadAt 23 v9) K w) (fun v51 w =>
  GuardP v48 true (fun K w => YieldP Try.prog S (binS Go.BinOp.eql 23 (Go.Operand.tmp 50) (Go.Operand.tmp 51) v50 v51) K w) (fun v52 w =>
  PickP v48 v52 (Go.Value.bool false) (fun v53 w =>
  GuardP v53 true (fun K w => K v28 w) (fun v55 w =>
  GuardP v53 true (fun K w => K v34 w) (fun v56 w =>
  GuardP v53 true (fun K w => YieldP Try.prog S (binS Go.BinOp.eql 4 (Go.Operand.tmp 55) (Go.Operand.tmp 56) v55 v56) K w) (fun v57 w =>
  PickP v53 v57 (Go.Value.bool false) (fun v58 w =>
  R v58 w) w) w) w) w) w) w) w) w) w) w) w) w) w) w) w) w) w) w) w) w) w) w) w) w) w) w) w) w) w) w) w) w) w) w) w) w) w) w) w) w) w) w) w) w) w) w) w) w) w) w) w
theorem S3.calls (a0 a1 a2 : Value) (R : Value → World → Prop) (w : World) (h : S3 a0 a1 a2 R w) : Calls Try.prog 3 #[a0, a1, a2] w fun e w' => ∃ v, e = .returned v ∧ R v w' :=
  calls_of_tr (n := 59) (c := bodyOf Try.f3) (.two .leaf (.two (.two .leaf (.two (.two .leaf .leaf) .leaf)) (.two (.two .leaf (.two (.two .leaf .leaf) .leaf)) (.two .leaf (.two .leaf (.two (.draw [(true, 0), (true, 2), (false, 1), (false, 3), (true, 4), (true, 5), (true, 6), (true, 7), (true, 9), (true, 10), (false, 8), (false, 11), (true, 12), (true, 13), (true, 14), (true, 15), (true, 16), (true, 17), (true, 18), (true, 19), (true, 20), (true, 21), (true, 22), (true, 23), (true, 24)]) .leaf)))))) Try.func3 (by kernel_rfl) Try.ntmps3 (by kernel_rfl) (by kernel_rfl) [a0, a1, a2] (by kernel_rfl) (of_eq_ (by kernel_rfl) h)

/-- shelfmark/shelfmarklaw11.SpanIn -/
def S4 (a0 a1 a2 : Value) (R : Value → World → Prop) (w : World) : Prop :=
  LiftP Try.prog (Instr.box 23 a1) (fun v4 w =>
  CallP Try.prog 10 #[] (fun v15 w =>
  LiftP Try.prog (Op.unary Go.UnOp.not v15) (fun v16 w =>
  CondP v16 (fun w =>
    R (Go.Value.bool false) w) (fun w =>
    CallP Try.prog 11 #[a0, (Go.Value.int Go.IntKind.i64 20)] (fun v18 w =>
  LiftP Try.prog (Op.unary Go.UnOp.not v18) (fun v19 w =>
  GuardP v19 false (fun K w => LiftP Try.prog (Instr.loadAt 23 v4) K w) (fun v21 w =>
  GuardP v19 false (fun K w => LiftP Try.prog (Instr.buildSlice 26 1 #[(0, v21)]) K w) (fun v22 w =>
  GuardP v19 false (fun K w => CallP Try.prog 11 #[v22, (Go.Value.int Go.IntKind.i64 1)] K w) (fun v23 w =>
  GuardP v19 false (fun K w => LiftP Try.prog (Op.unary Go.UnOp.not v23) K w) (fun v24 w =>
  PickP v19 (Go.Value.bool true) v24 (fun v25 w =>
  GuardP v25 false (fun K w => K a2 w) (fun v27 w =>
  GuardP v25 false (fun K w => NextP Try.prog (builtin Go.Builtin.len #[9] 3 #[false] #[v27]) K w) (fun v28 w =>
  GuardP v25 false (fun K w => LiftP Try.prog (binS Go.BinOp.gtr 3 (Go.Operand.tmp 28) (Go.Operand.const (Go.Value.int Go.IntKind.i64 200)) v28 (Go.Value.int Go.IntKind.i64 200)) K w) (fun v29 w =>
  PickP v25 (Go.Value.bool true) v29 (fun v30 w =>
  CondP v30 (fun w =>
    R (Go.Value.bool true) w) (fun w =>
    LoopP (fun J vs w =>   -- [7, 8]
    NextP Try.prog (builtin Go.Builtin.len #[26] 3 #[false] #[a0]) (fun v33 w =>
    LiftP Try.prog (binS Go.BinOp.lss 3 (Go.Operand.tmp 31) (Go.Operand.tmp 33) (vs.tail.headD undef) v33) (fun v34 w =>
    CondP v34 (fun w =>
      GuardP (vs.headD undef) false (fun K w => K a0 w) (fun v39 w =>
    GuardP (vs.headD undef) false (fun K w => K (vs.tail.headD undef) w) (fun v40 w =>
    GuardP (vs.headD undef) false (fun K w => LiftP Try.prog (Instr.indexAt 26 v39 v40) K w) (fun v41 w =>
    GuardP (vs.headD undef) false (fun K w => LiftP Try.prog (Instr.loadAt 23 v41) K w) (fun v42 w =>
    GuardP (vs.headD undef) false (fun K w => K a2 w) (fun v43 w =>
    GuardP (vs.headD undef) false (fun K w => CallP Try.prog 16 #[v42, v43] K w) (fun v44 w =>
    PickP (vs.headD undef) (Go.Value.bool true) v44 (fun v45 w =>
    LiftP Try.prog (binS Go.BinOp.add 3 (Go.Operand.tmp 35) (Go.Operand.const (Go.Value.int Go.IntKind.i64 1)) (vs.tail.headD undef) (Go.Value.int Go.IntKind.i64 1)) (fun v36 w =>
    J [v45, v36] w) w) w) w) w) w) w) w) w) (fun w =>
      DrawP (fun S w =>
  YieldP Try.prog S (Instr.loadAt 23 v4) (fun v49 w =>
  ActP S (fun K w => CallP Try.prog 18 #[a0] K w) (fun S v47 w =>
  ActP S (fun K w => CallP Try.prog 19 #[a0, v49] K w) (fun S v50 w =>
  LoopP (fun J_1 vs_1 w =>   -- [9, 13]
    NextP Try.prog (builtin Go.Builtin.len #[26] 3 #[false] #[v47]) (fun v53 w =>
    LiftP Try.prog (binS Go.BinOp.lss 3 (Go.Operand.tmp 51) (Go.Operand.tmp 53) (vs_1.tail.headD undef) v53) (fun v54 w =>
    CondP v54 (fun w =>
      JoinP (fun J_2 w =>
      LiftP Try.prog (Instr.indexAt 26 v47 (vs_1.tail.headD undef)) (fun v59 w =>
      LiftP Try.prog (Instr.loadAt 23 v59) (fun v60 w =>
      CallP Try.prog 16 #[v60, a2] (fun v62 w =>
      CondP v62 (fun w =>
        LiftP Try.prog (binS Go.BinOp.add 3 (Go.Operand.tmp 63) (Go.Operand.const (Go.Value.int Go.IntKind.i64 1)) (vs_1.headD undef) (Go.Value.int Go.IntKind.i64 1)) (fun v64 w =>
        J_2 [v64] w) w) (fun w =>
        J_2 [(vs_1.headD undef)] w) w) w) w) w) (fun vs_2 w =>   -- [9]
    LiftP Try.prog (binS Go.BinOp.add 3 (Go.Operand.tmp 55) (Go.Operand.const (Go.Value.int Go.IntKind.i64 1)) (vs_1.tail.headD undef) (Go.Value.int Go.IntKind.i64 1)) (fun v56 w =>
    J_1 [(vs_2.headD undef), v56] w) w) w) (fun w =>
      LoopP (fun J_3 vs_3 w =>   -- [10, 14]
    NextP Try.prog (builtin Go.Builtin.len #[26] 3 #[false] #[v50]) (fun v67 w =>
    LiftP Try.prog (binS Go.BinOp.lss 3 (Go.Operand.tmp 65) (Go.Operand.tmp 67) (vs_3.tail.headD undef) v67) (fun v68 w =>
    CondP v68 (fun w =>
      JoinP (fun J_4 w =>
      LiftP Try.prog (Instr.indexAt 26 v50 (vs_3.tail.headD undef)) (fun v73 w =>
      LiftP Try.prog (Instr.loadAt 23 v73) (fun v74 w =>
      CallP Try.prog 16 #[v74, a2] (fun v76 w =>
      CondP v76 (fun w =>
        LiftP Try.prog (binS Go.BinOp.add 3 (Go.Operand.tmp 77) (Go.Operand.const (Go.Value.int Go.IntKind.i64 1)) (vs_3.headD undef) (Go.Value.int Go.IntKind.i64 1)) (fun v78 w =>
        J_4 [v78] w) w) (fun w =>
        J_4 [(vs_3.headD undef)] w) w) w) w) w) (fun vs_4 w =>   -- [10]
    LiftP Try.prog (binS Go.BinOp.add 3 (Go.Operand.tmp 69) (Go.Operand.const (Go.Value.int Go.IntKind.i64 1)) (vs_3.tail.headD undef) (Go.Value.int Go.IntKind.i64 1)) (fun v70 w =>
    J_3 [(vs_4.headD undef), v70] w) w) w) (fun w =>
      LiftP Try.prog (binS Go.BinOp.eql 3 (Go.Operand.tmp 79) (Go.Operand.const (Go.Value.int Go.IntKind.i64 1)) (vs_1.headD undef) (Go.Value.int Go.IntKind.i64 1)) (fun v80 w =>
  LiftP Try.prog (binS Go.BinOp.eql 4 (Go.Operand.tmp 80) (Go.Operand.tmp 81) v80 (vs.headD undef)) (fun v82 w =>
  GuardP v82 true (fun K w => K (vs_1.headD undef) w) (fun v84 w =>
  GuardP v82 true (fun K w => LiftP Try.prog (binS Go.BinOp.leq 3 (Go.Operand.tmp 84) (Go.Operand.const (Go.Value.int Go.IntKind.i64 1)) v84 (Go.Value.int Go.IntKind.i64 1)) K w) (fun v85 w =>
  PickP v82 v85 (Go.Value.bool false) (fun v86 w =>
  GuardP v86 true (fun K w => K (vs_3.headD undef) w) (fun v88 w =>
  GuardP v86 true (fun K w => LiftP Try.prog (binS Go.BinOp.eql 3 (Go.Operand.tmp 88) (Go.Operand.const (Go.Value.int Go.IntKind.i64 1)) v88 (Go.Value.int Go.IntKind.i64 1)) K w) (fun v89 w =>
  GuardP v86 true (fun K w => K (vs.headD undef) w) (fun v90 w =>
  GuardP v86 true (fun K w => K v90 w) (fun v91 w =>
  GuardP v91 true (fun K w => LiftP Try.prog (Instr.loadAt 23 v4) K w) (fun v92 w =>
  GuardP v91 true (fun K w => K a2 w) (fun v93 w =>
  GuardP v91 true (fun K w => CallP Try.prog 16 #[v92, v93] K w) (fun v94 w =>
  GuardP v91 true (fun K w => LiftP Try.prog (Op.unary Go.UnOp.not v94) K w) (fun v95 w =>
  GuardP v86 true (fun K w => PickP v91 v95 (Go.Value.bool false) K w) (fun v96 w =>
  GuardP v86 true (fun K w => LiftP Try.prog (binS Go.BinOp.eql 4 (Go.Operand.tmp 89) (Go.Operand.tmp 96) v89 v96) K w) (fun v97 w =>
  PickP v86 v97 (Go.Value.bool false) (fun v98 w =>
  GuardP v98 true (fun K w => K (vs_3.headD undef) w) (fun v100 w =>
  GuardP v98 true (fun K w => LiftP Try.prog (binS Go.BinOp.leq 3 (Go.Operand.tmp 100) (Go.Operand.const (Go.Value.int Go.IntKind.i64 1)) v100 (Go.Value.int Go.IntKind.i64 1)) K w) (fun v101 w =>
  PickP v98 v101 (Go.Value.bool false) (fun v102 w =>
  R v102 w) w) w) w) w) w) w) w) w) w) w) w) w) w) w) w) w) w) w) w) w) w) w) [(Go.Value.int Go.IntKind.i64 0), (Go.Value.int Go.IntKind.i64 0)] w) w) w) w) [(Go.Value.int Go.IntKind.i64 0), (Go.Value.int Go.IntKind.i64 0)] w) w) w) w) w) w) w) w) [(Go.Value.bool false), (Go.Value.int Go.IntKind.i64 0)] w) w) w) w) w) w) w) w) w) w) w) w) w) w) w) w) w
theorem S4.calls (a0 a1 a2 : Value) (R : Value → World → Prop) (w : World) (h : S4 a0 a1 a2 R w) : Calls Try.prog 4 #[a0, a1, a2] w fun e w' => ∃ v, e = .returned v ∧ R v w' :=
  calls_of_tr (n := 103) (c := bodyOf Try.f4) (.two .leaf (.two (.two .leaf (.two (.two .leaf .leaf) .leaf)) (.two (.two .leaf (.two (.two .leaf .leaf) .leaf)) (.two .leaf (.two (.two .leaf (.one (.loop [7, 8] (.two (.two .leaf (.two .leaf .leaf)) (.two (.one .leaf) .leaf))))) (.two .leaf (.two (.draw [(true, 0), (true, 2), (true, 3), (false, 1), (false, 4), (true, 5), (true, 6)]) (.two (.two .leaf (.one (.loop [9, 13] (.two (.two .leaf (.two .leaf .leaf)) (.join [9] (.one (.two .leaf (.two .leaf .leaf))) .leaf))))) (.two (.two .leaf (.one (.loop [10, 14] (.two (.two .leaf (.two .leaf .leaf)) (.join [10] (.one (.two .leaf (.two .leaf .leaf))) .leaf))))) (.two .leaf .leaf)))))))))) Try.func4 (by kernel_rfl) Try.ntmps4 (by kernel_rfl) (by kernel_rfl) [a0, a1, a2] (by kernel_rfl) (of_eq_ (by kernel_rfl) h)

/-- shelfmark/shelfmarklaw11.SpanLeast -/
def S5 (a0 a1 : Value) (R : Value → World → Prop) (w : World) : Prop :=
  LiftP Try.prog (Instr.box 23 a1) (fun v3 w =>
  CallP Try.prog 10 #[] (fun v5 w =>
  LiftP Try.prog (Op.unary Go.UnOp.not v5) (fun v6 w =>
  CondP v6 (fun w =>
    R (Go.Value.bool false) w) (fun w =>
    CallP Try.prog 11 #[a0, (Go.Value.int Go.IntKind.i64 20)] (fun v8 w =>
  LiftP Try.prog (Op.unary Go.UnOp.not v8) (fun v9 w =>
  GuardP v9 false (fun K w => LiftP Try.prog (Instr.loadAt 23 v3) K w) (fun v11 w =>
  GuardP v9 false (fun K w => LiftP Try.prog (Instr.buildSlice 26 1 #[(0, v11)]) K w) (fun v12 w =>
  GuardP v9 false (fun K w => CallP Try.prog 11 #[v12, (Go.Value.int Go.IntKind.i64 1)] K w) (fun v13 w =>
  GuardP v9 false (fun K w => LiftP Try.prog (Op.unary Go.UnOp.not v13) K w) (fun v14 w =>
  PickP v9 (Go.Value.bool true) v14 (fun v15 w =>
  CondP v15 (fun w =>
    R (Go.Value.bool true) w) (fun w =>
    DrawP (fun S w =>
  ActP S (fun K w => CallP Try.prog 18 #[a0] K w) (fun S v17 w =>
  ActP S (fun K w => CallP Try.prog 21 #[a0] K w) (fun S v19 w =>
  ActP S (fun K w => CallP Try.prog 20 #[v17, v19] K w) (fun S v20 w =>
  GuardP v20 true (fun K w => K a0 w) (fun v22 w =>
  GuardP v20 true (fun K w => YieldP Try.prog S (Instr.loadAt 23 v3) K w) (fun v23 w =>
  GuardP v20 true (fun K w => K a0 w) (fun v25 w =>
  GuardP v20 true (fun K w => YieldP Try.prog S (Instr.loadAt 23 v3) K w) (fun v26 w =>
  GuardA v20 true S (fun K w => CallP Try.prog 19 #[v22, v23] K w) (fun S v24 w =>
  GuardA v20 true S (fun K w => CallP Try.prog 22 #[v25, v26] K w) (fun S v27 w =>
  GuardA v20 true S (fun K w => CallP Try.prog 20 #[v24, v27] K w) (fun S v28 w =>
  PickP v20 v28 (Go.Value.bool false) (fun v29 w =>
  GuardP v29 true (fun K w => K a0 w) (fun v31 w =>
  GuardP v29 true (fun K w => YieldP Try.prog S (Instr.loadAt 23 v3) K w) (fun v32 w =>
  GuardP v29 true (fun K w => K a0 w) (fun v34 w =>
  GuardP v29 true (fun K w => YieldP Try.prog S (Instr.loadAt 23 v3) K w) (fun v35 w =>
  GuardA v29 true S (fun K w => CallP Try.prog 23 #[v31, v32] K w) (fun S v33 w =>
  GuardA v29 true S (fun K w => CallP Try.prog 24 #[v34, v35] K w) (fun S v36 w =>
  GuardP v29 true (fun K w => YieldP Try.prog S (binS Go.BinOp.eql 4 (Go.Operand.tmp 33) (Go.Operand.tmp 36) v33 v36) K w) (fun v37 w =>
  PickP v29 v37 (Go.Value.bool false) (fun v38 w =>
  R v38 w) w) w) w) w) w) w) w) w) w) w) w) w) w) w) w) w) w) w) w) w) w) w) w) w) w) w) w) w) w) w) w) w
theorem S5.calls (a0 a1 : Value) (R : Value → World → Prop) (w : World) (h : S5 a0 a1 R w) : Calls Try.prog 5 #[a0, a1] w fun e w' => ∃ v, e = .returned v ∧ R v w' :=
  calls_of_tr (n := 39) (c := bodyOf Try.f5) (.two .leaf (.two (.two .leaf (.two (.two .leaf .leaf) .leaf)) (.two (.two .leaf (.two (.two .leaf .leaf) .leaf)) (.two (.draw [(true, 0), (true, 2), (false, 1), (false, 3), (false, 4), (true, 5), (true, 6), (true, 7), (true, 9), (true, 10), (false, 8), (false, 11), (false, 12), (true, 13), (true, 14), (true, 15), (true, 16), (true, 18), (true, 19), (false, 17), (false, 20), (true, 21), (true, 22), (true, 23)]) .leaf)))) Try.func5 (by kernel_rfl) Try.ntmps5 (by kernel_rfl) (by kernel_rfl) [a0, a1] (by kernel_rfl) (of_eq_ (by kernel_rfl) h)

/-- shelfmark/shelfmarklaw11.SpanGrows -/
def S6 (a0 a1 : Value) (R : Value → World → Prop) (w : World) : Prop :=
  CallP Try.prog 10 #[] (fun v10 w =>
  LiftP Try.prog (Op.unary Go.UnOp.not v10) (fun v11 w =>
  CondP v11 (fun w =>
    R (Go.Value.bool false) w) (fun w =>
    CallP Try.prog 11 #[a0, (Go.Value.int Go.IntKind.i64 20)] (fun v13 w =>
  LiftP Try.prog (Op.unary Go.UnOp.not v13) (fun v14 w =>
  GuardP v14 false (fun K w => K a1 w) (fun v16 w =>
  GuardP v14 false (fun K w => NextP Try.prog (builtin Go.Builtin.len #[37] 3 #[false] #[v16]) K w) (fun v17 w =>
  GuardP v14 false (fun K w => LiftP Try.prog (binS Go.BinOp.gtr 3 (Go.Operand.tmp 17) (Go.Operand.const (Go.Value.int Go.IntKind.i64 100)) v17 (Go.Value.int Go.IntKind.i64 100)) K w) (fun v18 w =>
  PickP v14 (Go.Value.bool true) v18 (fun v19 w =>
  CondP v19 (fun w =>
    R (Go.Value.bool true) w) (fun w =>
    CallP Try.prog 18 #[a0] (fun v21 w =>
  LoopP (fun J vs w =>   -- [6, 7]
    NextP Try.prog (builtin Go.Builtin.len #[37] 3 #[false] #[a1]) (fun v24 w =>
    LiftP Try.prog (binS Go.BinOp.lss 3 (Go.Operand.tmp 22) (Go.Operand.tmp 24) (vs.tail.headD undef) v24) (fun v25 w =>
    CondP v25 (fun w =>
      JoinP (fun J_1 w =>
      LiftP Try.prog (Instr.indexAt 37 a1 (vs.tail.headD undef)) (fun v30 w =>
      LiftP Try.prog (Instr.loadAt 3 v30) (fun v31 w =>
      LiftP Try.prog (binS Go.BinOp.geq 3 (Go.Operand.tmp 31) (Go.Operand.const (Go.Value.int Go.IntKind.i64 0)) v31 (Go.Value.int Go.IntKind.i64 0)) (fun v32 w =>
      GuardP v32 true (fun K w => K a1 w) (fun v34 w =>
      GuardP v32 true (fun K w => K (vs.tail.headD undef) w) (fun v35 w =>
      GuardP v32 true (fun K w => LiftP Try.prog (Instr.indexAt 37 v34 v35) K w) (fun v36 w =>
      GuardP v32 true (fun K w => LiftP Try.prog (Instr.loadAt 3 v36) K w) (fun v37 w =>
      GuardP v32 true (fun K w => K a0 w) (fun v38 w =>
      GuardP v32 true (fun K w => NextP Try.prog (builtin Go.Builtin.len #[26] 3 #[false] #[v38]) K w) (fun v39 w =>
      GuardP v32 true (fun K w => LiftP Try.prog (binS Go.BinOp.lss 3 (Go.Operand.tmp 37) (Go.Operand.tmp 39) v37 v39) K w) (fun v40 w =>
      PickP v32 v40 (Go.Value.bool false) (fun v41 w =>
      CondP v41 (fun w =>
        LiftP Try.prog (Instr.indexAt 37 a1 (vs.tail.headD undef)) (fun v46 w =>
        LiftP Try.prog (Instr.loadAt 3 v46) (fun v47 w =>
        LiftP Try.prog (Instr.indexAt 26 a0 v47) (fun v48 w =>
        LiftP Try.prog (Instr.loadAt 23 v48) (fun v49 w =>
        LiftP Try.prog (Instr.buildSlice 26 1 #[(0, v49)]) (fun v50 w =>
        NextP Try.prog (builtin Go.Builtin.append #[26, 26] 26 #[false, false] #[(vs.headD undef), v50]) (fun v51 w =>
        CallP Try.prog 18 #[v51] (fun v52 w =>
        J_1 [v52] w) w) w) w) w) w) w) w) (fun w =>
        J_1 [(vs.headD undef)] w) w) w) w) w) w) w) w) w) w) w) w) w) (fun vs_1 w =>   -- [6]
    LiftP Try.prog (binS Go.BinOp.add 3 (Go.Operand.tmp 26) (Go.Operand.const (Go.Value.int Go.IntKind.i64 1)) (vs.tail.headD undef) (Go.Value.int Go.IntKind.i64 1)) (fun v27 w =>
    J [(vs_1.headD undef), v27] w) w) w) (fun w =>
      LoopP (fun J_2 vs_2 w =>   -- [6, 8]
    NextP Try.prog (builtin Go.Builtin.len #[26] 3 #[false] #[a0]) (fun v55 w =>
    LiftP Try.prog (binS Go.BinOp.lss 3 (Go.Operand.tmp 53) (Go.Operand.tmp 55) (vs_2.tail.headD undef) v55) (fun v56 w =>
    CondP v56 (fun w =>
      LiftP Try.prog (Instr.indexAt 26 a0 (vs_2.tail.headD undef)) (fun v61 w =>
    LiftP Try.prog (Instr.loadAt 23 v61) (fun v62 w =>
    LiftP Try.prog (Instr.buildSlice 26 1 #[(0, v62)]) (fun v63 w =>
    NextP Try.prog (builtin Go.Builtin.append #[26, 26] 26 #[false, false] #[v63, (vs_2.headD undef)]) (fun v65 w =>
    CallP Try.prog 18 #[v65] (fun v66 w =>
    LiftP Try.prog (Instr.indexAt 26 a0 (vs_2.tail.headD undef)) (fun v70 w =>
    LiftP Try.prog (Instr.loadAt 23 v70) (fun v71 w =>
    CallP Try.prog 23 #[v66, v71] (fun v72 w =>
    LiftP Try.prog (Op.unary Go.UnOp.not v72) (fun v73 w =>
    GuardP v73 false (fun K w => K v21 w) (fun v75 w =>
    GuardP v73 false (fun K w => K a0 w) (fun v76 w =>
    GuardP v73 false (fun K w => K (vs_2.tail.headD undef) w) (fun v77 w =>
    GuardP v73 false (fun K w => LiftP Try.prog (Instr.indexAt 26 v76 v77) K w) (fun v78 w =>
    GuardP v73 false (fun K w => LiftP Try.prog (Instr.loadAt 23 v78) K w) (fun v79 w =>
    GuardP v73 false (fun K w => CallP Try.prog 23 #[v75, v79] K w) (fun v80 w =>
    GuardP v73 false (fun K w => LiftP Try.prog (Op.unary Go.UnOp.not v80) K w) (fun v81 w =>
    PickP v73 (Go.Value.bool true) v81 (fun v82 w =>
    CondP v82 (fun w =>
      R (Go.Value.bool false) w) (fun w =>
      LiftP Try.prog (binS Go.BinOp.add 3 (Go.Operand.tmp 57) (Go.Operand.const (Go.Value.int Go.IntKind.i64 1)) (vs_2.tail.headD undef) (Go.Value.int Go.IntKind.i64 1)) (fun v58 w =>
    J_2 [v66, v58] w) w) w) w) w) w) w) w) w) w) w) w) w) w) w) w) w) w) w) w) (fun w =>
      LoopP (fun J_3 vs_3 w =>   -- [9]
    NextP Try.prog (builtin Go.Builtin.len #[26] 3 #[false] #[v21]) (fun v85 w =>
    LiftP Try.prog (binS Go.BinOp.lss 3 (Go.Operand.tmp 83) (Go.Operand.tmp 85) (vs_3.headD undef) v85) (fun v86 w =>
    CondP v86 (fun w =>
      DrawP (fun S w =>
    YieldP Try.prog S (binS Go.BinOp.sub 3 (Go.Operand.tmp 90) (Go.Operand.const (Go.Value.int Go.IntKind.i64 1)) (vs_3.headD undef) (Go.Value.int Go.IntKind.i64 1)) (fun v91 w =>
    YieldP Try.prog S (Instr.indexAt 26 v21 v91) (fun v92 w =>
    YieldP Try.prog S (Instr.fieldAt 23 v92 1) (fun v93 w =>
    YieldP Try.prog S (Instr.loadAt 9 v93) (fun v94 w =>
    YieldP Try.prog S (binS Go.BinOp.eql 9 (Go.Operand.tmp 94) (Go.Operand.const (Go.Value.string { data := #[] })) v94 (Go.Value.string { data := #[] })) (fun v95 w =>
    GuardP v95 false (fun K w => K v21 w) (fun v97 w =>
    GuardP v95 false (fun K w => K (vs_3.headD undef) w) (fun v98 w =>
    GuardP v95 false (fun K w => YieldP Try.prog S (binS Go.BinOp.sub 3 (Go.Operand.tmp 98) (Go.Operand.const (Go.Value.int Go.IntKind.i64 1)) v98 (Go.Value.int Go.IntKind.i64 1)) K w) (fun v99 w =>
    GuardP v95 false (fun K w => YieldP Try.prog S (Instr.indexAt 26 v97 v99) K w) (fun v100 w =>
    GuardP v95 false (fun K w => YieldP Try.prog S (Instr.fieldAt 23 v100 1) K w) (fun v101 w =>
    GuardP v95 false (fun K w => YieldP Try.prog S (Instr.loadAt 9 v101) K w) (fun v102 w =>
    GuardP v95 false (fun K w => K v21 w) (fun v103 w =>
    GuardP v95 false (fun K w => K (vs_3.headD undef) w) (fun v104 w =>
    GuardP v95 false (fun K w => YieldP Try.prog S (Instr.indexAt 26 v103 v104) K w) (fun v105 w =>
    GuardP v95 false (fun K w => YieldP Try.prog S (Instr.fieldAt 23 v105 0) K w) (fun v106 w =>
    GuardP v95 false (fun K w => YieldP Try.prog S (Instr.loadAt 9 v106) K w) (fun v107 w =>
    GuardP v95 false (fun K w => YieldP Try.prog S (binS Go.BinOp.geq 9 (Go.Operand.tmp 102) (Go.Operand.tmp 107) v102 v107) K w) (fun v108 w =>
    PickP v95 (Go.Value.bool true) v108 (fun v109 w =>
    CondP v109 (fun w =>
      R (Go.Value.bool false) w) (fun w =>
      LiftP Try.prog (binS Go.BinOp.add 3 (Go.Operand.tmp 87) (Go.Operand.const (Go.Value.int Go.IntKind.i64 1)) (vs_3.headD undef) (Go.Value.int Go.IntKind.i64 1)) (fun v88 w =>
    J_3 [v88] w) w) w) w) w) w) w) w) w) w) w) w) w) w) w) w) w) w) w) w) w) w) (fun w =>
      CallP Try.prog 20 #[(vs_2.headD undef), v21] (fun v112 w =>
  R v112 w) w) w) w) w) [(Go.Value.int Go.IntKind.i64 1)] w) w) w) w) [(vs.headD undef), (Go.Value.int Go.IntKind.i64 0)] w) w) w) w) [(Go.Value.slice none 0 0), (Go.Value.int Go.IntKind.i64 0)] w) w) w) w) w) w) w) w) w) w) w) w
theorem S6.calls (a0 a1 : Value) (R : Value → World → Prop) (w : World) (h : S6 a0 a1 R w) : Calls Try.prog 6 #[a0, a1] w fun e w' => ∃ v, e = .returned v ∧ R v w' :=
  calls_of_tr (n := 113) (c := bodyOf Try.f6) (.two .leaf (.two (.two .leaf (.two (.two .leaf .leaf) .leaf)) (.two (.two .leaf (.two (.two .leaf .leaf) .leaf)) (.two .leaf (.two .leaf (.two (.two .leaf (.one (.loop [6, 7] (.two (.two .leaf (.two .leaf .leaf)) (.join [6] (.one (.two .leaf (.two .leaf .leaf))) .leaf))))) (.two (.two .leaf (.one (.loop [6, 8] (.two (.two .leaf (.two .leaf .leaf)) (.two (.one (.two .leaf (.two .leaf (.two (.two .leaf .leaf) .leaf)))) .leaf))))) (.two (.two .leaf (.one (.loop [9] (.two (.two .leaf (.two .leaf .leaf)) (.two (.one (.two (.draw [(true, 0), (true, 1), (true, 2), (true, 3), (true, 4), (true, 5), (true, 6), (true, 7), (true, 8), (true, 9), (true, 10), (true, 11), (true, 12), (true, 13), (true, 14), (true, 15), (true, 16), (true, 17), (true, 18), (true, 19), (true, 20)]) (.two (.two .leaf .leaf) .leaf))) .leaf))))) (.two .leaf .leaf))))))))) Try.func6 (by kernel_rfl) Try.ntmps6 (by kernel_rfl) (by kernel_rfl) [a0, a1] (by kernel_rfl) (of_eq_ (by kernel_rfl) h)

/-- shelfmark/shelfmarklaw11.awake -/
def S10 (R : Value → World → Prop) (w : World) : Prop :=
  LiftP Try.prog (Instr.build 23 #[(0, (Go.Value.string { data := #[99] })), (1, (Go.Value.string { data := #[101] }))]) (fun v2 w =>
  LiftP Try.prog (Instr.build 23 #[(0, (Go.Value.string { data := #[97] })), (1, (Go.Value.string { data := #[99] }))]) (fun v3 w =>
  LiftP Try.prog (Instr.build 23 #[(0, (Go.Value.string { data := #[120] })), (1, (Go.Value.string { data := #[98] }))]) (fun v4 w =>
  LiftP Try.prog (Instr.buildSlice 26 3 #[(0, v2), (1, v3), (2, v4)]) (fun v5 w =>
  CallP Try.prog 18 #[v5] (fun v6 w =>
  NextP Try.prog (builtin Go.Builtin.len #[26] 3 #[false] #[v6]) (fun v8 w =>
  LiftP Try.prog (binS Go.BinOp.eql 3 (Go.Operand.tmp 8) (Go.Operand.const (Go.Value.int Go.IntKind.i64 1)) v8 (Go.Value.int Go.IntKind.i64 1)) (fun v9 w =>
  GuardP v9 true (fun K w => K v6 w) (fun v11 w =>
  GuardP v9 true (fun K w => LiftP Try.prog (Instr.indexAt 26 v11 (Go.Value.int Go.IntKind.i64 0)) K w) (fun v12 w =>
  GuardP v9 true (fun K w => LiftP Try.prog (Instr.loadAt 23 v12) K w) (fun v13 w =>
  GuardP v9 true (fun K w => LiftP Try.prog (Instr.build 23 #[(0, (Go.Value.string { data := #[97] })), (1, (Go.Value.string { data := #[101] }))]) K w) (fun v14 w =>
  GuardP v9 true (fun K w => LiftP Try.prog (binS Go.BinOp.eql 23 (Go.Operand.tmp 13) (Go.Operand.tmp 14) v13 v14) K w) (fun v15 w =>
  PickP v9 v15 (Go.Value.bool false) (fun v16 w =>
  GuardP v16 true (fun K w => K v6 w) (fun v18 w =>
  GuardP v16 true (fun K w => LiftP Try.prog (Instr.build 23 #[(0, (Go.Value.string { data := #[98] })), (1, (Go.Value.string { data := #[99] }))]) K w) (fun v19 w =>
  GuardP v16 true (fun K w => CallP Try.prog 19 #[v18, v19] K w) (fun v20 w =>
  GuardP v16 true (fun K w => NextP Try.prog (builtin Go.Builtin.len #[26] 3 #[false] #[v20]) K w) (fun v21 w =>
  GuardP v16 true (fun K w => LiftP Try.prog (binS Go.BinOp.eql 3 (Go.Operand.tmp 21) (Go.Operand.const (Go.Value.int Go.IntKind.i64 2)) v21 (Go.Value.int Go.IntKind.i64 2)) K w) (fun v22 w =>
  PickP v16 v22 (Go.Value.bool false) (fun v23 w =>
  GuardP v23 true (fun K w => K v6 w) (fun v25 w =>
  GuardP v23 true (fun K w => LiftP Try.prog (Instr.indexAt 26 v25 (Go.Value.int Go.IntKind.i64 0)) K w) (fun v26 w =>
  GuardP v23 true (fun K w => LiftP Try.prog (Instr.loadAt 23 v26) K w) (fun v27 w =>
  GuardP v23 true (fun K w => CallP Try.prog 16 #[v27, (Go.Value.string { data := #[98] })] K w) (fun v28 w =>
  PickP v23 v28 (Go.Value.bool false) (fun v29 w =>
  R v29 w) w) w) w) w) w) w) w) w) w) w) w) w) w) w) w) w) w) w) w) w) w) w) w) w
theorem S10.calls (R : Value → World → Prop) (w : World) (h : S10 R w) : Calls Try.prog 10 #[] w fun e w' => ∃ v, e = .returned v ∧ R v w' :=
  calls_of_tr (n := 30) (c := bodyOf Try.f10) (.two .leaf (.two .leaf (.two .leaf .leaf))) Try.func10 (by kernel_rfl) Try.ntmps10 (by kernel_rfl) (by kernel_rfl) [] (by kernel_rfl) (of_eq_ (by kernel_rfl) h)

/-- shelfmark/shelfmarkref11.Light -/
def S11 (a0 a1 : Value) (R : Value → World → Prop) (w : World) : Prop :=
  LoopP (fun J vs w =>   -- [5]
    NextP Try.prog (builtin Go.Builtin.len #[26] 3 #[false] #[a0]) (fun v8 w =>
    LiftP Try.prog (binS Go.BinOp.lss 3 (Go.Operand.tmp 6) (Go.Operand.tmp 8) (vs.headD undef) v8) (fun v9 w =>
    GuardP v9 true (fun K w => K (vs.headD undef) w) (fun v11 w =>
    GuardP v9 true (fun K w => K a1 w) (fun v12 w =>
    GuardP v9 true (fun K w => LiftP Try.prog (binS Go.BinOp.leq 3 (Go.Operand.tmp 11) (Go.Operand.tmp 12) v11 v12) K w) (fun v13 w =>
    PickP v9 v13 (Go.Value.bool false) (fun v14 w =>
    CondP v14 (fun w =>
      LiftP Try.prog (Instr.indexAt 26 a0 (vs.headD undef)) (fun v19 w =>
    LiftP Try.prog (Instr.fieldAt 23 v19 0) (fun v20 w =>
    LiftP Try.prog (Instr.loadAt 9 v20) (fun v21 w =>
    NextP Try.prog (builtin Go.Builtin.len #[9] 3 #[false] #[v21]) (fun v22 w =>
    LiftP Try.prog (binS Go.BinOp.gtr 3 (Go.Operand.tmp 22) (Go.Operand.const (Go.Value.int Go.IntKind.i64 200)) v22 (Go.Value.int Go.IntKind.i64 200)) (fun v23 w =>
    GuardP v23 false (fun K w => K a0 w) (fun v25 w =>
    GuardP v23 false (fun K w => K (vs.headD undef) w) (fun v26 w =>
    GuardP v23 false (fun K w => LiftP Try.prog (Instr.indexAt 26 v25 v26) K w) (fun v27 w =>
    GuardP v23 false (fun K w => LiftP Try.prog (Instr.fieldAt 23 v27 1) K w) (fun v28 w =>
    GuardP v23 false (fun K w => LiftP Try.prog (Instr.loadAt 9 v28) K w) (fun v29 w =>
    GuardP v23 false (fun K w => NextP Try.prog (builtin Go.Builtin.len #[9] 3 #[false] #[v29]) K w) (fun v30 w =>
    GuardP v23 false (fun K w => LiftP Try.prog (binS Go.BinOp.gtr 3 (Go.Operand.tmp 30) (Go.Operand.const (Go.Value.int Go.IntKind.i64 200)) v30 (Go.Value.int Go.IntKind.i64 200)) K w) (fun v31 w =>
    PickP v23 (Go.Value.bool true) v31 (fun v32 w =>
    CondP v32 (fun w =>
      R (Go.Value.bool false) w) (fun w =>
      LiftP Try.prog (binS Go.BinOp.add 3 (Go.Operand.tmp 15) (Go.Operand.const (Go.Value.int Go.IntKind.i64 1)) (vs.headD undef) (Go.Value.int Go.IntKind.i64 1)) (fun v16 w =>
    J [v16] w) w) w) w) w) w) w) w) w) w) w) w) w) w) w) w) (fun w =>
      NextP Try.prog (builtin Go.Builtin.len #[26] 3 #[false] #[a0]) (fun v34 w =>
  LiftP Try.prog (binS Go.BinOp.leq 3 (Go.Operand.tmp 34) (Go.Operand.tmp 35) v34 a1) (fun v36 w =>
  R v36 w) w) w) w) w) w) w) w) w) w) [(Go.Value.int Go.IntKind.i64 0)] w
theorem S11.calls (a0 a1 : Value) (R : Value → World → Prop) (w : World) (h : S11 a0 a1 R w) : Calls Try.prog 11 #[a0, a1] w fun e w' => ∃ v, e = .returned v ∧ R v w' :=
  calls_of_tr (n := 37) (c := bodyOf Try.f11) (.two .leaf (.two (.two .leaf (.one (.loop [5] (.two (.two .leaf (.two .leaf .leaf)) (.two (.one (.two .leaf (.two (.two .leaf .leaf) .leaf))) .leaf))))) (.two .leaf .leaf))) Try.func11 (by kernel_rfl) Try.ntmps11 (by kernel_rfl) (by kernel_rfl) [a0, a1] (by kernel_rfl) (of_eq_ (by kernel_rfl) h)

/-- shelfmark/span.Meet -/
def S12 (a0 a1 : Value) (R : Value → World → Prop) (w : World) : Prop :=
  LiftP Try.prog (Instr.box 23 a0) (fun v2 w =>
  LiftP Try.prog (Instr.box 23 a1) (fun v3 w =>
  LiftP Try.prog (Instr.alloc 23 true (.tuple #[])) (fun v4 w =>
  JoinP (fun J w =>
    DrawP (fun S w =>
    YieldP Try.prog S (Instr.fieldAt 23 v2 0) (fun v7 w =>
    YieldP Try.prog S (Instr.loadAt 9 v7) (fun v8 w =>
    YieldP Try.prog S (Instr.fieldAt 23 v3 0) (fun v9 w =>
    YieldP Try.prog S (Instr.loadAt 9 v9) (fun v10 w =>
    YieldN Try.prog S (builtin Go.Builtin.max #[9, 9] 9 #[false, false] #[v8, v10]) (fun v11 w =>
    YieldP Try.prog S (Instr.fieldAt 23 v2 1) (fun v12 w =>
    YieldP Try.prog S (Instr.loadAt 9 v12) (fun v13 w =>
    YieldP Try.prog S (Instr.fieldAt 23 v3 1) (fun v14 w =>
    YieldP Try.prog S (Instr.loadAt 9 v14) (fun v15 w =>
    BothP (fun w =>
    ActP S (fun K w => CallP Try.prog 43 #[v13, v15] K w) (fun S v16_1 w =>
    BothP (fun w =>
    ActP S (fun K w => LiftP Try.prog (Instr.build 23 #[(0, v11), (1, v16_1)]) K w) (fun S v17_2 w =>
    ActP S (fun K w => LiftP Try.prog (Instr.alloc 23 true (.tuple #[])) K w) (fun S v6_2 w =>
    ActP S (fun K w => LiftU Try.prog (Instr.storeAt 23 v6_2 v17_2) K w) (fun S v__2 w =>
    J [v6_2] w) w) w) w) (fun w =>
    BothP (fun w =>
    ActP S (fun K w => LiftP Try.prog (Instr.alloc 23 true (.tuple #[])) K w) (fun S v6_1 w =>
    ActP S (fun K w => LiftP Try.prog (Instr.build 23 #[(0, v11), (1, v16_1)]) K w) (fun S v17_1 w =>
    ActP S (fun K w => LiftU Try.prog (Instr.storeAt 23 v6_1 v17_1) K w) (fun S v__1 w =>
    J [v6_1] w) w) w) w) (fun w =>
    True) w) w) w) (fun w =>
    BothP (fun w =>
    ActP S (fun K w => LiftP Try.prog (Instr.alloc 23 true (.tuple #[])) K w) (fun S v6 w =>
    ActP S (fun K w => CallP Try.prog 43 #[v13, v15] K w) (fun S v16 w =>
    ActP S (fun K w => LiftP Try.prog (Instr.build 23 #[(0, v11), (1, v16)]) K w) (fun S v17 w =>
    ActP S (fun K w => LiftU Try.prog (Instr.storeAt 23 v6 v17) K w) (fun S v_ w =>
    J [v6] w) w) w) w) w) (fun w =>
    True) w) w) w) w) w) w) w) w) w) w) w) w) (fun vs w =>   -- [6]
  LiftP Try.prog (Instr.loadAt 23 v2) (fun v18 w =>
  CallP Try.prog 14 #[v18] (fun v19 w =>
  GuardP v19 false (fun K w => LiftP Try.prog (Instr.loadAt 23 v3) K w) (fun v21 w =>
  GuardP v19 false (fun K w => CallP Try.prog 14 #[v21] K w) (fun v22 w =>
  PickP v19 (Go.Value.bool true) v22 (fun v23 w =>
  GuardP v23 false (fun K w => LiftP Try.prog (Instr.loadAt 23 (vs.headD undef)) K w) (fun v25 w =>
  GuardP v23 false (fun K w => CallP Try.prog 14 #[v25] K w) (fun v26 w =>
  PickP v23 (Go.Value.bool true) v26 (fun v27 w =>
  CondP v27 (fun w =>
    LiftP Try.prog (Instr.build 23 #[]) (fun v28 w =>
    LiftU Try.prog (Instr.storeAt 23 v4 v28) (fun v__3 w =>
    RetC Try.prog v4 23 (fun x => R (.tuple #[x, (Go.Value.bool false)]) w) w) w) w) (fun w =>
    LiftP Try.prog (Instr.loadAt 23 (vs.headD undef)) (fun v29 w =>
  LiftU Try.prog (Instr.storeAt 23 v4 v29) (fun v__4 w =>
  RetC Try.prog v4 23 (fun x_1 => R (.tuple #[x_1, (Go.Value.bool true)]) w) w) w) w) w) w) w) w) w) w) w) w) w) w) w) w) w
theorem S12.calls (a0 a1 : Value) (R : Value → World → Prop) (w : World) (h : S12 a0 a1 R w) : Calls Try.prog 12 #[a0, a1] w fun e w' => ∃ v, e = .returned v ∧ R v w' :=
  calls_of_tr (n := 30) (c := bodyOf Try.f12) (.two .leaf (.join [6] (.drawT (.rd 0 (.rd 1 (.rd 2 (.rd 3 (.rd 4 (.rd 5 (.rd 6 (.rd 7 (.rd 8 (.alt 9 (.alt 10 (.act 11 (.act 12 .done)) (.alt 11 (.act 10 (.act 12 .done)) .done)) (.alt 11 (.act 9 (.act 10 (.act 12 .done))) .done)))))))))))) (.two (.two .leaf (.two (.two .leaf .leaf) .leaf)) (.two .leaf .leaf)))) Try.func12 (by kernel_rfl) Try.ntmps12 (by kernel_rfl) (by kernel_rfl) [a0, a1] (by kernel_rfl) (of_eq_ (by kernel_rfl) h)

/-- shelfmark/shelfmarkref11.Meet -/
def S13 (a0 a1 : Value) (R : Value → World → Prop) (w : World) : Prop :=
  LiftP Try.prog (Instr.box 23 a0) (fun v2 w =>
  LiftP Try.prog (Instr.box 23 a1) (fun v3 w =>
  LiftP Try.prog (Instr.alloc 23 true (.tuple #[])) (fun v4 w =>
  LiftP Try.prog (Instr.loadAt 23 v2) (fun v10 w =>
  LiftP Try.prog (Instr.loadAt 23 v3) (fun v11 w =>
  LiftP Try.prog (Instr.buildSlice 26 2 #[(0, v10), (1, v11)]) (fun v12 w =>
  CallP Try.prog 44 #[v12] (fun v13 w =>
  LoopP (fun J vs w =>   -- [7, 8]
    NextP Try.prog (builtin Go.Builtin.len #[60] 3 #[false] #[v13]) (fun v16 w =>
    LiftP Try.prog (binS Go.BinOp.lss 3 (Go.Operand.tmp 14) (Go.Operand.tmp 16) (vs.tail.headD undef) v16) (fun v17 w =>
    CondP v17 (fun w =>
      DrawP (fun S w =>
    YieldP Try.prog S (Instr.loadAt 23 v2) (fun v21 w =>
    YieldP Try.prog S (Instr.indexAt 60 v13 (vs.tail.headD undef)) (fun v24 w =>
    YieldP Try.prog S (Instr.loadAt 9 v24) (fun v25 w =>
    ActP S (fun K w => CallP Try.prog 17 #[v21, v25] K w) (fun S v26 w =>
    GuardP v26 true (fun K w => YieldP Try.prog S (Instr.loadAt 23 v3) K w) (fun v28 w =>
    GuardP v26 true (fun K w => K v13 w) (fun v29 w =>
    GuardP v26 true (fun K w => K (vs.tail.headD undef) w) (fun v30 w =>
    GuardP v26 true (fun K w => YieldP Try.prog S (Instr.indexAt 60 v29 v30) K w) (fun v31 w =>
    GuardP v26 true (fun K w => YieldP Try.prog S (Instr.loadAt 9 v31) K w) (fun v32 w =>
    GuardA v26 true S (fun K w => CallP Try.prog 17 #[v28, v32] K w) (fun S v33 w =>
    PickP v26 v33 (Go.Value.bool false) (fun v34 w =>
    ActP S (fun K w => LiftP Try.prog (Instr.buildSlice 62 1 #[(0, v34)]) K w) (fun S v35 w =>
    ActP S (fun K w => NextP Try.prog (builtin Go.Builtin.append #[62, 62] 62 #[false, false] #[(vs.headD undef), v35]) K w) (fun S v36 w =>
    LiftP Try.prog (binS Go.BinOp.add 3 (Go.Operand.tmp 18) (Go.Operand.const (Go.Value.int Go.IntKind.i64 1)) (vs.tail.headD undef) (Go.Value.int Go.IntKind.i64 1)) (fun v19 w =>
    J [v36, v19] w) w) w) w) w) w) w) w) w) w) w) w) w) w) w) w) (fun w =>
      CallP Try.prog 45 #[v13, (vs.headD undef)] (fun v39 w =>
  NextP Try.prog (builtin Go.Builtin.len #[26] 3 #[false] #[v39]) (fun v41 w =>
  LiftP Try.prog (binS Go.BinOp.eql 3 (Go.Operand.tmp 41) (Go.Operand.const (Go.Value.int Go.IntKind.i64 0)) v41 (Go.Value.int Go.IntKind.i64 0)) (fun v42 w =>
  CondP v42 (fun w =>
    LiftP Try.prog (Instr.build 23 #[]) (fun v43 w =>
    LiftU Try.prog (Instr.storeAt 23 v4 v43) (fun v_ w =>
    RetC Try.prog v4 23 (fun x => R (.tuple #[x, (Go.Value.bool false)]) w) w) w) w) (fun w =>
    LiftP Try.prog (Instr.indexAt 26 v39 (Go.Value.int Go.IntKind.i64 0)) (fun v45 w =>
  LiftP Try.prog (Instr.loadAt 23 v45) (fun v46 w =>
  LiftU Try.prog (Instr.storeAt 23 v4 v46) (fun v__1 w =>
  RetC Try.prog v4 23 (fun x_1 => R (.tuple #[x_1, (Go.Value.bool true)]) w) w) w) w) w) w) w) w) w) w) w) w) [(Go.Value.slice none 0 0), (Go.Value.int Go.IntKind.i64 0)] w) w) w) w) w) w) w) w
theorem S13.calls (a0 a1 : Value) (R : Value → World → Prop) (w : World) (h : S13 a0 a1 R w) : Calls Try.prog 13 #[a0, a1] w fun e w' => ∃ v, e = .returned v ∧ R v w' :=
  calls_of_tr (n := 47) (c := bodyOf Try.f13) (.two .leaf (.two .leaf (.two .leaf (.two (.two .leaf (.one (.loop [7, 8] (.two (.two .leaf (.two .leaf .leaf)) (.two (.one (.draw [(true, 0), (true, 1), (true, 2), (true, 3), (true, 4), (true, 5), (false, 6), (true, 7), (true, 8), (true, 9), (true, 10), (true, 11), (true, 12), (false, 13), (true, 14), (false, 15), (false, 16), (true, 17)])) .leaf))))) (.two .leaf (.two (.two .leaf (.two (.two .leaf .leaf) .leaf)) (.two .leaf .leaf))))))) Try.func13 (by kernel_rfl) Try.ntmps13 (by kernel_rfl) (by kernel_rfl) [a0, a1] (by kernel_rfl) (of_eq_ (by kernel_rfl) h)

/-- shelfmark/span.Empty -/
def S14 (a0 : Value) (R : Value → World → Prop) (w : World) : Prop :=
  LiftP Try.prog (Instr.box 23 a0) (fun v1 w =>
  LiftP Try.prog (Instr.fieldAt 23 v1 1) (fun v3 w =>
  LiftP Try.prog (Instr.loadAt 9 v3) (fun v4 w =>
  LiftP Try.prog (binS Go.BinOp.neq 9 (Go.Operand.tmp 4) (Go.Operand.const (Go.Value.string { data := #[] })) v4 (Go.Value.string { data := #[] })) (fun v5 w =>
  GuardP v5 true (fun K w => LiftP Try.prog (Instr.fieldAt 23 v1 1) K w) (fun v7 w =>
  GuardP v5 true (fun K w => LiftP Try.prog (Instr.loadAt 9 v7) K w) (fun v8 w =>
  GuardP v5 true (fun K w => LiftP Try.prog (Instr.fieldAt 23 v1 0) K w) (fun v9 w =>
  GuardP v5 true (fun K w => LiftP Try.prog (Instr.loadAt 9 v9) K w) (fun v10 w =>
  GuardP v5 true (fun K w => LiftP Try.prog (binS Go.BinOp.leq 9 (Go.Operand.tmp 8) (Go.Operand.tmp 10) v8 v10) K w) (fun v11 w =>
  PickP v5 v11 (Go.Value.bool false) (fun v12 w =>
  R v12 w) w) w) w) w) w) w) w) w) w) w
theorem S14.calls (a0 : Value) (R : Value → World → Prop) (w : World) (h : S14 a0 R w) : Calls Try.prog 14 #[a0] w fun e w' => ∃ v, e = .returned v ∧ R v w' :=
  calls_of_tr (n := 13) (c := bodyOf Try.f14) (.two .leaf (.two .leaf .leaf)) Try.func14 (by kernel_rfl) Try.ntmps14 (by kernel_rfl) (by kernel_rfl) [a0] (by kernel_rfl) (of_eq_ (by kernel_rfl) h)

/-- shelfmark/shelfmarkref11.Empty -/
def S15 (a0 : Value) (R : Value → World → Prop) (w : World) : Prop :=
  LiftP Try.prog (Instr.box 23 a0) (fun v1 w =>
  LiftP Try.prog (Instr.fieldAt 23 v1 1) (fun v3 w =>
  LiftP Try.prog (Instr.loadAt 9 v3) (fun v4 w =>
  LiftP Try.prog (binS Go.BinOp.neq 9 (Go.Operand.tmp 4) (Go.Operand.const (Go.Value.string { data := #[] })) v4 (Go.Value.string { data := #[] })) (fun v5 w =>
  GuardP v5 true (fun K w => LiftP Try.prog (Instr.fieldAt 23 v1 1) K w) (fun v7 w =>
  GuardP v5 true (fun K w => LiftP Try.prog (Instr.loadAt 9 v7) K w) (fun v8 w =>
  GuardP v5 true (fun K w => LiftP Try.prog (Instr.fieldAt 23 v1 0) K w) (fun v9 w =>
  GuardP v5 true (fun K w => LiftP Try.prog (Instr.loadAt 9 v9) K w) (fun v10 w =>
  GuardP v5 true (fun K w => LiftP Try.prog (binS Go.BinOp.leq 9 (Go.Operand.tmp 8) (Go.Operand.tmp 10) v8 v10) K w) (fun v11 w =>
  PickP v5 v11 (Go.Value.bool false) (fun v12 w =>
  R v12 w) w) w) w) w) w) w) w) w) w) w
theorem S15.calls (a0 : Value) (R : Value → World → Prop) (w : World) (h : S15 a0 R w) : Calls Try.prog 15 #[a0] w fun e w' => ∃ v, e = .returned v ∧ R v w' :=
  calls_of_tr (n := 13) (c := bodyOf Try.f15) (.two .leaf (.two .leaf .leaf)) Try.func15 (by kernel_rfl) Try.ntmps15 (by kernel_rfl) (by kernel_rfl) [a0] (by kernel_rfl) (of_eq_ (by kernel_rfl) h)

/-- shelfmark/span.Has -/
def S16 (a0 a1 : Value) (R : Value → World → Prop) (w : World) : Prop :=
  LiftP Try.prog (Instr.box 23 a0) (fun v2 w =>
  LiftP Try.prog (Instr.fieldAt 23 v2 0) (fun v6 w =>
  LiftP Try.prog (Instr.loadAt 9 v6) (fun v7 w =>
  LiftP Try.prog (binS Go.BinOp.geq 9 (Go.Operand.tmp 5) (Go.Operand.tmp 7) a1 v7) (fun v8 w =>
  GuardP v8 true (fun K w => LiftP Try.prog (Instr.fieldAt 23 v2 1) K w) (fun v10 w =>
  GuardP v8 true (fun K w => LiftP Try.prog (Instr.loadAt 9 v10) K w) (fun v11 w =>
  GuardP v8 true (fun K w => LiftP Try.prog (binS Go.BinOp.eql 9 (Go.Operand.tmp 11) (Go.Operand.const (Go.Value.string { data := #[] })) v11 (Go.Value.string { data := #[] })) K w) (fun v12 w =>
  GuardP v8 true (fun K w => K v12 w) (fun v13 w =>
  GuardP v13 false (fun K w => K a1 w) (fun v14 w =>
  GuardP v13 false (fun K w => LiftP Try.prog (Instr.fieldAt 23 v2 1) K w) (fun v15 w =>
  GuardP v13 false (fun K w => LiftP Try.prog (Instr.loadAt 9 v15) K w) (fun v16 w =>
  GuardP v13 false (fun K w => LiftP Try.prog (binS Go.BinOp.lss 9 (Go.Operand.tmp 14) (Go.Operand.tmp 16) v14 v16) K w) (fun v17 w =>
  GuardP v8 true (fun K w => PickP v13 (Go.Value.bool true) v17 K w) (fun v18 w =>
  PickP v8 v18 (Go.Value.bool false) (fun v19 w =>
  R v19 w) w) w) w) w) w) w) w) w) w) w) w) w) w) w
theorem S16.calls (a0 a1 : Value) (R : Value → World → Prop) (w : World) (h : S16 a0 a1 R w) : Calls Try.prog 16 #[a0, a1] w fun e w' => ∃ v, e = .returned v ∧ R v w' :=
  calls_of_tr (n := 20) (c := bodyOf Try.f16) (.two .leaf (.two .leaf .leaf)) Try.func16 (by kernel_rfl) Try.ntmps16 (by kernel_rfl) (by kernel_rfl) [a0, a1] (by kernel_rfl) (of_eq_ (by kernel_rfl) h)

/-- shelfmark/shelfmarkref11.Has -/
def S17 (a0 a1 : Value) (R : Value → World → Prop) (w : World) : Prop :=
  LiftP Try.prog (Instr.box 23 a0) (fun v2 w =>
  LiftP Try.prog (Instr.fieldAt 23 v2 0) (fun v6 w =>
  LiftP Try.prog (Instr.loadAt 9 v6) (fun v7 w =>
  LiftP Try.prog (binS Go.BinOp.geq 9 (Go.Operand.tmp 5) (Go.Operand.tmp 7) a1 v7) (fun v8 w =>
  GuardP v8 true (fun K w => LiftP Try.prog (Instr.fieldAt 23 v2 1) K w) (fun v10 w =>
  GuardP v8 true (fun K w => LiftP Try.prog (Instr.loadAt 9 v10) K w) (fun v11 w =>
  GuardP v8 true (fun K w => LiftP Try.prog (binS Go.BinOp.eql 9 (Go.Operand.tmp 11) (Go.Operand.const (Go.Value.string { data := #[] })) v11 (Go.Value.string { data := #[] })) K w) (fun v12 w =>
  GuardP v8 true (fun K w => K v12 w) (fun v13 w =>
  GuardP v13 false (fun K w => K a1 w) (fun v14 w =>
  GuardP v13 false (fun K w => LiftP Try.prog (Instr.fieldAt 23 v2 1) K w) (fun v15 w =>
  GuardP v13 false (fun K w => LiftP Try.prog (Instr.loadAt 9 v15) K w) (fun v16 w =>
  GuardP v13 false (fun K w => LiftP Try.prog (binS Go.BinOp.lss 9 (Go.Operand.tmp 14) (Go.Operand.tmp 16) v14 v16) K w) (fun v17 w =>
  GuardP v8 true (fun K w => PickP v13 (Go.Value.bool true) v17 K w) (fun v18 w =>
  PickP v8 v18 (Go.Value.bool false) (fun v19 w =>
  R v19 w) w) w) w) w) w) w) w) w) w) w) w) w) w) w
theorem S17.calls (a0 a1 : Value) (R : Value → World → Prop) (w : World) (h : S17 a0 a1 R w) : Calls Try.prog 17 #[a0, a1] w fun e w' => ∃ v, e = .returned v ∧ R v w' :=
  calls_of_tr (n := 20) (c := bodyOf Try.f17) (.two .leaf (.two .leaf .leaf)) Try.func17 (by kernel_rfl) Try.ntmps17 (by kernel_rfl) (by kernel_rfl) [a0, a1] (by kernel_rfl) (of_eq_ (by kernel_rfl) h)

/-- shelfmark/span.Least -/
def S18 (a0 : Value) (R : Value → World → Prop) (w : World) : Prop :=
  CallP Try.prog 47 #[a0] (fun v9 w =>
  CallP Try.prog 46 #[v9, (.func (.func 14) #[] #[])] (fun v10 w =>
  CallP Try.prog 48 #[v10, (.func (.func 49) #[] #[])] (fun v12 w =>
  NextP Try.prog (builtin Go.Builtin.len #[26] 3 #[false] #[v10]) (fun v14 w =>
  LoopP (fun J vs w =>   -- [4, 15]
    LiftP Try.prog (binS Go.BinOp.lss 3 (Go.Operand.tmp 15) (Go.Operand.tmp 14) (vs.tail.headD undef) v14) (fun v16 w =>
    CondP v16 (fun w =>
      JoinP (fun J_1 w =>
      LiftP Try.prog (Instr.indexAt 26 v10 (vs.tail.headD undef)) (fun v17 w =>
      LiftP Try.prog (Instr.loadAt 23 v17) (fun v18 w =>
      LiftP Try.prog (Instr.alloc 23 true (.tuple #[])) (fun v6 w =>
      LiftU Try.prog (Instr.storeAt 23 v6 v18) (fun v_ w =>
      NextP Try.prog (builtin Go.Builtin.len #[26] 3 #[false] #[(vs.headD undef)]) (fun v20 w =>
      DrawP (fun S w =>
      YieldP Try.prog S (binS Go.BinOp.gtr 3 (Go.Operand.tmp 21) (Go.Operand.const (Go.Value.int Go.IntKind.i64 0)) v20 (Go.Value.int Go.IntKind.i64 0)) (fun v22 w =>
      GuardP v22 true (fun K w => K (vs.headD undef) w) (fun v24 w =>
      GuardP v22 true (fun K w => K v20 w) (fun v25 w =>
      GuardP v22 true (fun K w => YieldP Try.prog S (binS Go.BinOp.sub 3 (Go.Operand.tmp 25) (Go.Operand.const (Go.Value.int Go.IntKind.i64 1)) v25 (Go.Value.int Go.IntKind.i64 1)) K w) (fun v26 w =>
      GuardP v22 true (fun K w => YieldP Try.prog S (Instr.indexAt 26 v24 v26) K w) (fun v27 w =>
      GuardP v22 true (fun K w => YieldP Try.prog S (Instr.fieldAt 23 v27 1) K w) (fun v28 w =>
      GuardP v22 true (fun K w => YieldP Try.prog S (Instr.loadAt 9 v28) K w) (fun v29 w =>
      GuardP v22 true (fun K w => YieldP Try.prog S (binS Go.BinOp.eql 9 (Go.Operand.tmp 29) (Go.Operand.const (Go.Value.string { data := #[] })) v29 (Go.Value.string { data := #[] })) K w) (fun v30 w =>
      GuardP v22 true (fun K w => K v30 w) (fun v31 w =>
      GuardP v31 false (fun K w => YieldP Try.prog S (Instr.fieldAt 23 v6 0) K w) (fun v32 w =>
      GuardP v31 false (fun K w => YieldP Try.prog S (Instr.loadAt 9 v32) K w) (fun v33 w =>
      GuardP v31 false (fun K w => K (vs.headD undef) w) (fun v34 w =>
      GuardP v31 false (fun K w => K v20 w) (fun v35 w =>
      GuardP v31 false (fun K w => YieldP Try.prog S (binS Go.BinOp.sub 3 (Go.Operand.tmp 35) (Go.Operand.const (Go.Value.int Go.IntKind.i64 1)) v35 (Go.Value.int Go.IntKind.i64 1)) K w) (fun v36 w =>
      GuardP v31 false (fun K w => YieldP Try.prog S (Instr.indexAt 26 v34 v36) K w) (fun v37 w =>
      GuardP v31 false (fun K w => YieldP Try.prog S (Instr.fieldAt 23 v37 1) K w) (fun v38 w =>
      GuardP v31 false (fun K w => YieldP Try.prog S (Instr.loadAt 9 v38) K w) (fun v39 w =>
      GuardP v31 false (fun K w => YieldP Try.prog S (binS Go.BinOp.leq 9 (Go.Operand.tmp 33) (Go.Operand.tmp 39) v33 v39) K w) (fun v40 w =>
      GuardP v22 true (fun K w => PickP v31 (Go.Value.bool true) v40 K w) (fun v41 w =>
      PickP v22 v41 (Go.Value.bool false) (fun v42 w =>
      CondP v42 (fun w =>
        JoinP (fun J_2 w =>
          DrawP (fun S w =>
          YieldP Try.prog S (binS Go.BinOp.sub 3 (Go.Operand.tmp 44) (Go.Operand.const (Go.Value.int Go.IntKind.i64 1)) v20 (Go.Value.int Go.IntKind.i64 1)) (fun v45 w =>
          YieldP Try.prog S (Instr.indexAt 26 (vs.headD undef) v45) (fun v46 w =>
          YieldP Try.prog S (Instr.fieldAt 23 v46 1) (fun v47 w =>
          YieldP Try.prog S (Instr.loadAt 9 v47) (fun v48 w =>
          YieldP Try.prog S (binS Go.BinOp.neq 9 (Go.Operand.tmp 48) (Go.Operand.const (Go.Value.string { data := #[] })) v48 (Go.Value.string { data := #[] })) (fun v49 w =>
          GuardP v49 true (fun K w => YieldP Try.prog S (Instr.fieldAt 23 v6 1) K w) (fun v51 w =>
          GuardP v49 true (fun K w => YieldP Try.prog S (Instr.loadAt 9 v51) K w) (fun v52 w =>
          GuardP v49 true (fun K w => YieldP Try.prog S (binS Go.BinOp.eql 9 (Go.Operand.tmp 52) (Go.Operand.const (Go.Value.string { data := #[] })) v52 (Go.Value.string { data := #[] })) K w) (fun v53 w =>
          GuardP v49 true (fun K w => K v53 w) (fun v54 w =>
          GuardP v54 false (fun K w => YieldP Try.prog S (Instr.fieldAt 23 v6 1) K w) (fun v55 w =>
          GuardP v54 false (fun K w => YieldP Try.prog S (Instr.loadAt 9 v55) K w) (fun v56 w =>
          GuardP v54 false (fun K w => K (vs.headD undef) w) (fun v57 w =>
          GuardP v54 false (fun K w => K v20 w) (fun v58 w =>
          GuardP v54 false (fun K w => YieldP Try.prog S (binS Go.BinOp.sub 3 (Go.Operand.tmp 58) (Go.Operand.const (Go.Value.int Go.IntKind.i64 1)) v58 (Go.Value.int Go.IntKind.i64 1)) K w) (fun v59 w =>
          GuardP v54 false (fun K w => YieldP Try.prog S (Instr.indexAt 26 v57 v59) K w) (fun v60 w =>
          GuardP v54 false (fun K w => YieldP Try.prog S (Instr.fieldAt 23 v60 1) K w) (fun v61 w =>
          GuardP v54 false (fun K w => YieldP Try.prog S (Instr.loadAt 9 v61) K w) (fun v62 w =>
          GuardP v54 false (fun K w => YieldP Try.prog S (binS Go.BinOp.gtr 9 (Go.Operand.tmp 56) (Go.Operand.tmp 62) v56 v62) K w) (fun v63 w =>
          GuardP v49 true (fun K w => PickP v54 (Go.Value.bool true) v63 K w) (fun v64 w =>
          PickP v49 v64 (Go.Value.bool false) (fun v65 w =>
          CondP v65 (fun w =>
            LiftP Try.prog (binS Go.BinOp.sub 3 (Go.Operand.tmp 67) (Go.Operand.const (Go.Value.int Go.IntKind.i64 1)) v20 (Go.Value.int Go.IntKind.i64 1)) (fun v68 w =>
            LiftP Try.prog (Instr.fieldAt 23 v6 1) (fun v69 w =>
            LiftP Try.prog (Instr.loadAt 9 v69) (fun v70 w =>
            LiftP Try.prog (Instr.indexAt 26 (vs.headD undef) v68) (fun v71 w =>
            LiftP Try.prog (Instr.fieldAt 23 v71 1) (fun v72 w =>
            LiftU Try.prog (Instr.storeAt 9 v72 v70) (fun v__1 w =>
            J_2 [] w) w) w) w) w) w) w) (fun w =>
            J_2 [] w) w) w) w) w) w) w) w) w) w) w) w) w) w) w) w) w) w) w) w) w) w) w) (fun vs_2 w =>   -- []
        J_1 [(vs.headD undef)] w) w) (fun w =>
        LiftP Try.prog (Instr.loadAt 23 v6) (fun v74 w =>
      LiftP Try.prog (Instr.buildSlice 26 1 #[(0, v74)]) (fun v75 w =>
      NextP Try.prog (builtin Go.Builtin.append #[26, 26] 26 #[false, false] #[(vs.headD undef), v75]) (fun v76 w =>
      J_1 [v76] w) w) w) w) w) w) w) w) w) w) w) w) w) w) w) w) w) w) w) w) w) w) w) w) w) w) w) w) w) w) w) (fun vs_1 w =>   -- [4]
    LiftP Try.prog (binS Go.BinOp.add 3 (Go.Operand.tmp 15) (Go.Operand.const (Go.Value.int Go.IntKind.i64 1)) (vs.tail.headD undef) (Go.Value.int Go.IntKind.i64 1)) (fun v77 w =>
    J [(vs_1.headD undef), v77] w) w) w) (fun w =>
      R (vs.headD undef) w) w) w) [(Go.Value.slice none 0 0), (Go.Value.int Go.IntKind.i64 0)] w) w) w) w) w
theorem S18.calls (a0 : Value) (R : Value → World → Prop) (w : World) (h : S18 a0 R w) : Calls Try.prog 18 #[a0] w fun e w' => ∃ v, e = .returned v ∧ R v w' :=
  calls_of_tr (n := 79) (c := bodyOf Try.f18) (.two .leaf (.two .leaf (.two .leaf (.two .leaf (.two (.two .leaf (.one (.loop [4, 15] (.two .leaf (.two (.two .leaf .leaf) (.join [4] (.one (.two .leaf (.two (.two .leaf (.two (.draw [(true, 0), (true, 1), (true, 2), (true, 3), (true, 4), (true, 5), (true, 6), (true, 7), (true, 8), (true, 9), (true, 10), (true, 11), (true, 12), (true, 13), (true, 14), (true, 15), (true, 16), (true, 17), (true, 18), (true, 19), (true, 20), (true, 21)]) (.two (.join [] (.two (.draw [(true, 0), (true, 1), (true, 2), (true, 3), (true, 4), (true, 5), (true, 6), (true, 7), (true, 8), (true, 9), (true, 10), (true, 11), (true, 12), (true, 13), (true, 14), (true, 15), (true, 16), (true, 17), (true, 18), (true, 19), (true, 20), (true, 21), (true, 22)]) (.two .leaf .leaf)) .leaf) .leaf))) .leaf))) .leaf)))))) (.two .leaf .leaf)))))) Try.func18 (by kernel_rfl) Try.ntmps18 (by kernel_rfl) (by kernel_rfl) [a0] (by kernel_rfl) (of_eq_ (by kernel_rfl) h)

/-- shelfmark/span.Minus -/
def S19 (a0 a1 : Value) (R : Value → World → Prop) (w : World) : Prop :=
  LiftP Try.prog (Instr.box 23 a1) (fun v3 w =>
  LiftP Try.prog (Instr.loadAt 23 v3) (fun v12 w =>
  CallP Try.prog 14 #[v12] (fun v13 w =>
  CondP v13 (fun w =>
    CallP Try.prog 18 #[a0] (fun v15 w =>
    R v15 w) w) (fun w =>
    CallP Try.prog 18 #[a0] (fun v17 w =>
  NextP Try.prog (builtin Go.Builtin.len #[26] 3 #[false] #[v17]) (fun v18 w =>
  LoopP (fun J vs w =>   -- [5, 19]
    LiftP Try.prog (binS Go.BinOp.lss 3 (Go.Operand.tmp 19) (Go.Operand.tmp 18) (vs.tail.headD undef) v18) (fun v20 w =>
    CondP v20 (fun w =>
      JoinP (fun J_1 w =>
      LiftP Try.prog (Instr.indexAt 26 v17 (vs.tail.headD undef)) (fun v21 w =>
      LiftP Try.prog (Instr.loadAt 23 v21) (fun v22 w =>
      LiftP Try.prog (Instr.alloc 23 true (.tuple #[])) (fun v7 w =>
      LiftU Try.prog (Instr.storeAt 23 v7 v22) (fun v_ w =>
      JoinP (fun J_2 w =>
        LiftP Try.prog (Instr.fieldAt 23 v3 0) (fun v23 w =>
        LiftP Try.prog (Instr.loadAt 9 v23) (fun v24 w =>
        LiftP Try.prog (binS Go.BinOp.neq 9 (Go.Operand.tmp 24) (Go.Operand.const (Go.Value.string { data := #[] })) v24 (Go.Value.string { data := #[] })) (fun v25 w =>
        CondP v25 (fun w =>
          LiftP Try.prog (Instr.loadAt 23 v7) (fun v27 w =>
          LiftP Try.prog (Instr.fieldAt 23 v3 0) (fun v28 w =>
          LiftP Try.prog (Instr.loadAt 9 v28) (fun v29 w =>
          LiftP Try.prog (Instr.build 23 #[(1, v29)]) (fun v30 w =>
          CallP Try.prog 12 #[v27, v30] (fun v31 w =>
          LiftP Try.prog (Instr.extract v31 0) (fun v32 w =>
          LiftP Try.prog (Instr.extract v31 1) (fun v33 w =>
          LiftP Try.prog (Instr.alloc 23 true (.tuple #[])) (fun v8 w =>
          LiftU Try.prog (Instr.storeAt 23 v8 v32) (fun v__1 w =>
          CondP v33 (fun w =>
            LiftP Try.prog (Instr.loadAt 23 v8) (fun v36 w =>
            LiftP Try.prog (Instr.buildSlice 26 1 #[(0, v36)]) (fun v37 w =>
            NextP Try.prog (builtin Go.Builtin.append #[26, 26] 26 #[false, false] #[(vs.headD undef), v37]) (fun v38 w =>
            J_2 [v38] w) w) w) w) (fun w =>
            J_2 [(vs.headD undef)] w) w) w) w) w) w) w) w) w) w) w) (fun w =>
          J_2 [(vs.headD undef)] w) w) w) w) w) (fun vs_2 w =>   -- [5]
      LiftP Try.prog (Instr.fieldAt 23 v3 1) (fun v39 w =>
      LiftP Try.prog (Instr.loadAt 9 v39) (fun v40 w =>
      LiftP Try.prog (binS Go.BinOp.neq 9 (Go.Operand.tmp 40) (Go.Operand.const (Go.Value.string { data := #[] })) v40 (Go.Value.string { data := #[] })) (fun v41 w =>
      CondP v41 (fun w =>
        LiftP Try.prog (Instr.loadAt 23 v7) (fun v43 w =>
        LiftP Try.prog (Instr.fieldAt 23 v3 1) (fun v44 w =>
        LiftP Try.prog (Instr.loadAt 9 v44) (fun v45 w =>
        LiftP Try.prog (Instr.build 23 #[(0, v45)]) (fun v46 w =>
        CallP Try.prog 12 #[v43, v46] (fun v47 w =>
        LiftP Try.prog (Instr.extract v47 0) (fun v48 w =>
        LiftP Try.prog (Instr.extract v47 1) (fun v49 w =>
        LiftP Try.prog (Instr.alloc 23 true (.tuple #[])) (fun v10 w =>
        LiftU Try.prog (Instr.storeAt 23 v10 v48) (fun v__2 w =>
        CondP v49 (fun w =>
          LiftP Try.prog (Instr.loadAt 23 v10) (fun v52 w =>
          LiftP Try.prog (Instr.buildSlice 26 1 #[(0, v52)]) (fun v53 w =>
          NextP Try.prog (builtin Go.Builtin.append #[26, 26] 26 #[false, false] #[(vs_2.headD undef), v53]) (fun v54 w =>
          J_1 [v54] w) w) w) w) (fun w =>
          J_1 [(vs_2.headD undef)] w) w) w) w) w) w) w) w) w) w) w) (fun w =>
        J_1 [(vs_2.headD undef)] w) w) w) w) w) w) w) w) w) w) (fun vs_1 w =>   -- [5]
    LiftP Try.prog (binS Go.BinOp.add 3 (Go.Operand.tmp 19) (Go.Operand.const (Go.Value.int Go.IntKind.i64 1)) (vs.tail.headD undef) (Go.Value.int Go.IntKind.i64 1)) (fun v55 w =>
    J [(vs_1.headD undef), v55] w) w) w) (fun w =>
      R (vs.headD undef) w) w) w) [(Go.Value.slice none 0 0), (Go.Value.int Go.IntKind.i64 0)] w) w) w) w) w) w) w
theorem S19.calls (a0 a1 : Value) (R : Value → World → Prop) (w : World) (h : S19 a0 a1 R w) : Calls Try.prog 19 #[a0, a1] w fun e w' => ∃ v, e = .returned v ∧ R v w' :=
  calls_of_tr (n := 57) (c := bodyOf Try.f19) (.two .leaf (.two (.two .leaf (.two (.two .leaf .leaf) .leaf)) (.two .leaf (.two (.two .leaf (.one (.loop [5, 19] (.two .leaf (.two (.two .leaf .leaf) (.join [5] (.one (.two .leaf (.join [5] (.two .leaf (.two (.two .leaf (.two .leaf (.two .leaf .leaf))) .leaf)) (.two .leaf (.two (.two .leaf (.two .leaf (.two .leaf .leaf))) .leaf))))) .leaf)))))) (.two .leaf .leaf))))) Try.func19 (by kernel_rfl) Try.ntmps19 (by kernel_rfl) (by kernel_rfl) [a0, a1] (by kernel_rfl) (of_eq_ (by kernel_rfl) h)

/-- shelfmark/shelfmarkref11.Same -/
def S20 (a0 a1 : Value) (R : Value → World → Prop) (w : World) : Prop :=
  NextP Try.prog (builtin Go.Builtin.len #[26] 3 #[false] #[a0]) (fun v7 w =>
  NextP Try.prog (builtin Go.Builtin.len #[26] 3 #[false] #[a1]) (fun v9 w =>
  LiftP Try.prog (binS Go.BinOp.neq 3 (Go.Operand.tmp 7) (Go.Operand.tmp 9) v7 v9) (fun v10 w =>
  CondP v10 (fun w =>
    R (Go.Value.bool false) w) (fun w =>
    LoopP (fun J vs w =>   -- [5]
    NextP Try.prog (builtin Go.Builtin.len #[26] 3 #[false] #[a0]) (fun v13 w =>
    LiftP Try.prog (binS Go.BinOp.lss 3 (Go.Operand.tmp 11) (Go.Operand.tmp 13) (vs.headD undef) v13) (fun v14 w =>
    CondP v14 (fun w =>
      DrawP (fun S w =>
    YieldP Try.prog S (Instr.indexAt 26 a0 (vs.headD undef)) (fun v19 w =>
    YieldP Try.prog S (Instr.loadAt 23 v19) (fun v20 w =>
    YieldP Try.prog S (Instr.indexAt 26 a1 (vs.headD undef)) (fun v23 w =>
    YieldP Try.prog S (Instr.loadAt 23 v23) (fun v24 w =>
    YieldP Try.prog S (binS Go.BinOp.neq 23 (Go.Operand.tmp 20) (Go.Operand.tmp 24) v20 v24) (fun v25 w =>
    CondP v25 (fun w =>
      R (Go.Value.bool false) w) (fun w =>
      LiftP Try.prog (binS Go.BinOp.add 3 (Go.Operand.tmp 15) (Go.Operand.const (Go.Value.int Go.IntKind.i64 1)) (vs.headD undef) (Go.Value.int Go.IntKind.i64 1)) (fun v16 w =>
    J [v16] w) w) w) w) w) w) w) w) w) (fun w =>
      R (Go.Value.bool true) w) w) w) w) [(Go.Value.int Go.IntKind.i64 0)] w) w) w) w) w
theorem S20.calls (a0 a1 : Value) (R : Value → World → Prop) (w : World) (h : S20 a0 a1 R w) : Calls Try.prog 20 #[a0, a1] w fun e w' => ∃ v, e = .returned v ∧ R v w' :=
  calls_of_tr (n := 26) (c := bodyOf Try.f20) (.two .leaf (.two (.two .leaf (.two (.two .leaf .leaf) .leaf)) (.two (.two .leaf (.one (.loop [5] (.two (.two .leaf (.two .leaf .leaf)) (.two (.one (.two (.draw [(true, 0), (true, 1), (true, 2), (true, 3), (true, 4), (true, 5), (true, 6), (true, 7), (true, 8)]) (.two (.two .leaf .leaf) .leaf))) .leaf))))) (.two .leaf .leaf)))) Try.func20 (by kernel_rfl) Try.ntmps20 (by kernel_rfl) (by kernel_rfl) [a0, a1] (by kernel_rfl) (of_eq_ (by kernel_rfl) h)

/-- shelfmark/shelfmarkref11.Least -/
def S21 (a0 : Value) (R : Value → World → Prop) (w : World) : Prop :=
  CallP Try.prog 44 #[a0] (fun v7 w =>
  LoopP (fun J vs w =>   -- [4, 5]
    NextP Try.prog (builtin Go.Builtin.len #[60] 3 #[false] #[v7]) (fun v10 w =>
    LiftP Try.prog (binS Go.BinOp.lss 3 (Go.Operand.tmp 8) (Go.Operand.tmp 10) (vs.tail.headD undef) v10) (fun v11 w =>
    CondP v11 (fun w =>
      LiftP Try.prog (Instr.indexAt 60 v7 (vs.tail.headD undef)) (fun v18 w =>
    LiftP Try.prog (Instr.loadAt 9 v18) (fun v19 w =>
    CallP Try.prog 51 #[a0, v19] (fun v20 w =>
    LiftP Try.prog (Instr.buildSlice 62 1 #[(0, v20)]) (fun v21 w =>
    NextP Try.prog (builtin Go.Builtin.append #[62, 62] 62 #[false, false] #[(vs.headD undef), v21]) (fun v22 w =>
    LiftP Try.prog (binS Go.BinOp.add 3 (Go.Operand.tmp 12) (Go.Operand.const (Go.Value.int Go.IntKind.i64 1)) (vs.tail.headD undef) (Go.Value.int Go.IntKind.i64 1)) (fun v13 w =>
    J [v22, v13] w) w) w) w) w) w) w) (fun w =>
      CallP Try.prog 45 #[v7, (vs.headD undef)] (fun v25 w =>
  R v25 w) w) w) w) w) [(Go.Value.slice none 0 0), (Go.Value.int Go.IntKind.i64 0)] w) w
theorem S21.calls (a0 : Value) (R : Value → World → Prop) (w : World) (h : S21 a0 R w) : Calls Try.prog 21 #[a0] w fun e w' => ∃ v, e = .returned v ∧ R v w' :=
  calls_of_tr (n := 26) (c := bodyOf Try.f21) (.two .leaf (.two .leaf (.two .leaf (.two (.two .leaf (.one (.loop [4, 5] (.two (.two .leaf (.two .leaf .leaf)) (.two (.one .leaf) .leaf))))) (.two .leaf .leaf))))) Try.func21 (by kernel_rfl) Try.ntmps21 (by kernel_rfl) (by kernel_rfl) [a0] (by kernel_rfl) (of_eq_ (by kernel_rfl) h)

/-- shelfmark/shelfmarkref11.Minus -/
def S22 (a0 a1 : Value) (R : Value → World → Prop) (w : World) : Prop :=
  LiftP Try.prog (Instr.box 23 a1) (fun v3 w =>
  NextP Try.prog (builtin Go.Builtin.append #[26, 26] 26 #[false, false] #[(Go.Value.slice none 0 0), a0]) (fun v11 w =>
  LiftP Try.prog (Instr.loadAt 23 v3) (fun v13 w =>
  LiftP Try.prog (Instr.buildSlice 26 1 #[(0, v13)]) (fun v14 w =>
  NextP Try.prog (builtin Go.Builtin.append #[26, 26] 26 #[false, false] #[v11, v14]) (fun v15 w =>
  CallP Try.prog 44 #[v15] (fun v17 w =>
  LoopP (fun J vs w =>   -- [7, 8]
    NextP Try.prog (builtin Go.Builtin.len #[60] 3 #[false] #[v17]) (fun v20 w =>
    LiftP Try.prog (binS Go.BinOp.lss 3 (Go.Operand.tmp 18) (Go.Operand.tmp 20) (vs.tail.headD undef) v20) (fun v21 w =>
    CondP v21 (fun w =>
      DrawP (fun S w =>
    YieldP Try.prog S (Instr.indexAt 60 v17 (vs.tail.headD undef)) (fun v28 w =>
    YieldP Try.prog S (Instr.loadAt 9 v28) (fun v29 w =>
    ActP S (fun K w => CallP Try.prog 51 #[a0, v29] K w) (fun S v30 w =>
    GuardP v30 true (fun K w => YieldP Try.prog S (Instr.loadAt 23 v3) K w) (fun v32 w =>
    GuardP v30 true (fun K w => K v17 w) (fun v33 w =>
    GuardP v30 true (fun K w => K (vs.tail.headD undef) w) (fun v34 w =>
    GuardP v30 true (fun K w => YieldP Try.prog S (Instr.indexAt 60 v33 v34) K w) (fun v35 w =>
    GuardP v30 true (fun K w => YieldP Try.prog S (Instr.loadAt 9 v35) K w) (fun v36 w =>
    GuardA v30 true S (fun K w => CallP Try.prog 17 #[v32, v36] K w) (fun S v37 w =>
    GuardP v30 true (fun K w => YieldP Try.prog S (Op.unary Go.UnOp.not v37) K w) (fun v38 w =>
    PickP v30 v38 (Go.Value.bool false) (fun v39 w =>
    ActP S (fun K w => LiftP Try.prog (Instr.buildSlice 62 1 #[(0, v39)]) K w) (fun S v40 w =>
    ActP S (fun K w => NextP Try.prog (builtin Go.Builtin.append #[62, 62] 62 #[false, false] #[(vs.headD undef), v40]) K w) (fun S v41 w =>
    LiftP Try.prog (binS Go.BinOp.add 3 (Go.Operand.tmp 22) (Go.Operand.const (Go.Value.int Go.IntKind.i64 1)) (vs.tail.headD undef) (Go.Value.int Go.IntKind.i64 1)) (fun v23 w =>
    J [v41, v23] w) w) w) w) w) w) w) w) w) w) w) w) w) w) w) w) (fun w =>
      CallP Try.prog 45 #[v17, (vs.headD undef)] (fun v44 w =>
  R v44 w) w) w) w) w) [(Go.Value.slice none 0 0), (Go.Value.int Go.IntKind.i64 0)] w) w) w) w) w) w) w
theorem S22.calls (a0 a1 : Value) (R : Value → World → Prop) (w : World) (h : S22 a0 a1 R w) : Calls Try.prog 22 #[a0, a1] w fun e w' => ∃ v, e = .returned v ∧ R v w' :=
  calls_of_tr (n := 45) (c := bodyOf Try.f22) (.two .leaf (.two .leaf (.two .leaf (.two .leaf (.two .leaf (.two .leaf (.two (.two .leaf (.one (.loop [7, 8] (.two (.two .leaf (.two .leaf .leaf)) (.two (.one (.draw [(true, 0), (true, 1), (true, 2), (true, 3), (true, 4), (true, 5), (false, 6), (true, 7), (true, 8), (true, 9), (true, 10), (true, 11), (true, 12), (false, 13), (true, 14), (true, 15), (false, 16), (false, 17), (true, 18)])) .leaf))))) (.two .leaf .leaf)))))))) Try.func22 (by kernel_rfl) Try.ntmps22 (by kernel_rfl) (by kernel_rfl) [a0, a1] (by kernel_rfl) (of_eq_ (by kernel_rfl) h)

/-- shelfmark/span.Covers -/
def S23 (a0 a1 : Value) (R : Value → World → Prop) (w : World) : Prop :=
  LiftP Try.prog (Instr.box 23 a1) (fun v3 w =>
  LiftP Try.prog (Instr.loadAt 23 v3) (fun v5 w =>
  CallP Try.prog 14 #[v5] (fun v6 w =>
  GuardP v6 false (fun K w => K a0 w) (fun v8 w =>
  GuardP v6 false (fun K w => CallP Try.prog 18 #[v8] K w) (fun v9 w =>
  GuardP v6 false (fun K w => LiftP Try.prog (Instr.makeFunc (Go.Fn.func 53) #[] #[v3]) K w) (fun v10 w =>
  GuardP v6 false (fun K w => CallP Try.prog 52 #[v9, v10] K w) (fun v11 w =>
  PickP v6 (Go.Value.bool true) v11 (fun v12 w =>
  R v12 w) w) w) w) w) w) w) w) w
theorem S23.calls (a0 a1 : Value) (R : Value → World → Prop) (w : World) (h : S23 a0 a1 R w) : Calls Try.prog 23 #[a0, a1] w fun e w' => ∃ v, e = .returned v ∧ R v w' :=
  calls_of_tr (n := 13) (c := bodyOf Try.f23) (.two .leaf (.two .leaf .leaf)) Try.func23 (by kernel_rfl) Try.ntmps23 (by kernel_rfl) (by kernel_rfl) [a0, a1] (by kernel_rfl) (of_eq_ (by kernel_rfl) h)

/-- shelfmark/shelfmarkref11.Covers -/
def S24 (a0 a1 : Value) (R : Value → World → Prop) (w : World) : Prop :=
  LiftP Try.prog (Instr.box 23 a1) (fun v3 w =>
  NextP Try.prog (builtin Go.Builtin.append #[26, 26] 26 #[false, false] #[(Go.Value.slice none 0 0), a0]) (fun v10 w =>
  LiftP Try.prog (Instr.loadAt 23 v3) (fun v12 w =>
  LiftP Try.prog (Instr.buildSlice 26 1 #[(0, v12)]) (fun v13 w =>
  NextP Try.prog (builtin Go.Builtin.append #[26, 26] 26 #[false, false] #[v10, v13]) (fun v14 w =>
  CallP Try.prog 44 #[v14] (fun v16 w =>
  LoopP (fun J vs w =>   -- [7]
    NextP Try.prog (builtin Go.Builtin.len #[60] 3 #[false] #[v16]) (fun v19 w =>
    LiftP Try.prog (binS Go.BinOp.lss 3 (Go.Operand.tmp 17) (Go.Operand.tmp 19) (vs.headD undef) v19) (fun v20 w =>
    CondP v20 (fun w =>
      DrawP (fun S w =>
    YieldP Try.prog S (Instr.loadAt 23 v3) (fun v23 w =>
    YieldP Try.prog S (Instr.indexAt 60 v16 (vs.headD undef)) (fun v26 w =>
    YieldP Try.prog S (Instr.loadAt 9 v26) (fun v27 w =>
    ActP S (fun K w => CallP Try.prog 17 #[v23, v27] K w) (fun S v28 w =>
    GuardP v28 true (fun K w => K a0 w) (fun v30 w =>
    GuardP v28 true (fun K w => K v16 w) (fun v31 w =>
    GuardP v28 true (fun K w => K (vs.headD undef) w) (fun v32 w =>
    GuardP v28 true (fun K w => YieldP Try.prog S (Instr.indexAt 60 v31 v32) K w) (fun v33 w =>
    GuardP v28 true (fun K w => YieldP Try.prog S (Instr.loadAt 9 v33) K w) (fun v34 w =>
    GuardA v28 true S (fun K w => CallP Try.prog 51 #[v30, v34] K w) (fun S v35 w =>
    GuardP v28 true (fun K w => YieldP Try.prog S (Op.unary Go.UnOp.not v35) K w) (fun v36 w =>
    PickP v28 v36 (Go.Value.bool false) (fun v37 w =>
    CondP v37 (fun w =>
      R (Go.Value.bool false) w) (fun w =>
      LiftP Try.prog (binS Go.BinOp.add 3 (Go.Operand.tmp 21) (Go.Operand.const (Go.Value.int Go.IntKind.i64 1)) (vs.headD undef) (Go.Value.int Go.IntKind.i64 1)) (fun v22 w =>
    J [v22] w) w) w) w) w) w) w) w) w) w) w) w) w) w) w) w) (fun w =>
      R (Go.Value.bool true) w) w) w) w) [(Go.Value.int Go.IntKind.i64 0)] w) w) w) w) w) w) w
theorem S24.calls (a0 a1 : Value) (R : Value → World → Prop) (w : World) (h : S24 a0 a1 R w) : Calls Try.prog 24 #[a0, a1] w fun e w' => ∃ v, e = .returned v ∧ R v w' :=
  calls_of_tr (n := 38) (c := bodyOf Try.f24) (.two .leaf (.two .leaf (.two .leaf (.two .leaf (.two .leaf (.two (.two .leaf (.one (.loop [7] (.two (.two .leaf (.two .leaf .leaf)) (.two (.one (.two (.draw [(true, 0), (true, 1), (true, 2), (true, 3), (true, 4), (false, 5), (true, 6), (true, 7), (true, 8), (true, 9), (true, 10), (true, 11), (false, 12), (true, 13), (true, 14)]) (.two (.two .leaf .leaf) .leaf))) .leaf))))) (.two .leaf .leaf))))))) Try.func24 (by kernel_rfl) Try.ntmps24 (by kernel_rfl) (by kernel_rfl) [a0, a1] (by kernel_rfl) (of_eq_ (by kernel_rfl) h)

/-- shelfmark/span.lesser -/
def S43 (a0 a1 : Value) (R : Value → World → Prop) (w : World) : Prop :=
  LiftP Try.prog (binS Go.BinOp.eql 9 (Go.Operand.tmp 5) (Go.Operand.const (Go.Value.string { data := #[] })) a0 (Go.Value.string { data := #[] })) (fun v6 w =>
  GuardP v6 false (fun K w => K a1 w) (fun v8 w =>
  GuardP v6 false (fun K w => LiftP Try.prog (binS Go.BinOp.neq 9 (Go.Operand.tmp 8) (Go.Operand.const (Go.Value.string { data := #[] })) v8 (Go.Value.string { data := #[] })) K w) (fun v9 w =>
  GuardP v6 false (fun K w => K v9 w) (fun v10 w =>
  GuardP v10 true (fun K w => K a1 w) (fun v11 w =>
  GuardP v10 true (fun K w => K a0 w) (fun v12 w =>
  GuardP v10 true (fun K w => LiftP Try.prog (binS Go.BinOp.lss 9 (Go.Operand.tmp 11) (Go.Operand.tmp 12) v11 v12) K w) (fun v13 w =>
  GuardP v6 false (fun K w => PickP v10 v13 (Go.Value.bool false) K w) (fun v14 w =>
  PickP v6 (Go.Value.bool true) v14 (fun v15 w =>
  CondP v15 (fun w =>
    R a1 w) (fun w =>
    R a0 w) w) w) w) w) w) w) w) w) w) w
theorem S43.calls (a0 a1 : Value) (R : Value → World → Prop) (w : World) (h : S43 a0 a1 R w) : Calls Try.prog 43 #[a0, a1] w fun e w' => ∃ v, e = .returned v ∧ R v w' :=
  calls_of_tr (n := 18) (c := bodyOf Try.f43) (.two .leaf (.two (.two .leaf (.two (.two .leaf .leaf) .leaf)) (.two .leaf .leaf))) Try.func43 (by kernel_rfl) Try.ntmps43 (by kernel_rfl) (by kernel_rfl) [a0, a1] (by kernel_rfl) (of_eq_ (by kernel_rfl) h)

/-- shelfmark/shelfmarkref11.places -/
def S44 (a0 : Value) (R : Value → World → Prop) (w : World) : Prop :=
  LiftP Try.prog (Instr.buildSlice 60 1 #[(0, (Go.Value.string { data := #[] }))]) (fun v5 w =>
  LoopP (fun J vs w =>   -- [3, 4]
    NextP Try.prog (builtin Go.Builtin.len #[26] 3 #[false] #[a0]) (fun v8 w =>
    LiftP Try.prog (binS Go.BinOp.lss 3 (Go.Operand.tmp 6) (Go.Operand.tmp 8) (vs.tail.headD undef) v8) (fun v9 w =>
    CondP v9 (fun w =>
      DrawP (fun S w =>
    YieldP Try.prog S (Instr.indexAt 26 a0 (vs.tail.headD undef)) (fun v15 w =>
    YieldP Try.prog S (Instr.fieldAt 23 v15 0) (fun v16 w =>
    YieldP Try.prog S (Instr.loadAt 9 v16) (fun v17 w =>
    YieldP Try.prog S (Instr.indexAt 26 a0 (vs.tail.headD undef)) (fun v21 w =>
    YieldP Try.prog S (Instr.fieldAt 23 v21 1) (fun v22 w =>
    YieldP Try.prog S (Instr.loadAt 9 v22) (fun v23 w =>
    ActP S (fun K w => CallP Try.prog 65 #[(vs.headD undef), v17] K w) (fun S v18 w =>
    ActP S (fun K w => CallP Try.prog 65 #[v18, v23] K w) (fun S v24 w =>
    LiftP Try.prog (binS Go.BinOp.add 3 (Go.Operand.tmp 10) (Go.Operand.const (Go.Value.int Go.IntKind.i64 1)) (vs.tail.headD undef) (Go.Value.int Go.IntKind.i64 1)) (fun v11 w =>
    J [v24, v11] w) w) w) w) w) w) w) w) w) w) w) (fun w =>
      R (vs.headD undef) w) w) w) w) [v5, (Go.Value.int Go.IntKind.i64 0)] w) w
theorem S44.calls (a0 : Value) (R : Value → World → Prop) (w : World) (h : S44 a0 R w) : Calls Try.prog 44 #[a0] w fun e w' => ∃ v, e = .returned v ∧ R v w' :=
  calls_of_tr (n := 26) (c := bodyOf Try.f44) (.two .leaf (.two .leaf (.two (.two .leaf (.one (.loop [3, 4] (.two (.two .leaf (.two .leaf .leaf)) (.two (.one (.draw [(true, 0), (true, 1), (true, 2), (true, 3), (true, 4), (true, 5), (true, 7), (true, 8), (true, 9), (true, 10), (true, 11), (false, 6), (false, 12), (true, 13)])) .leaf))))) (.two .leaf .leaf)))) Try.func44 (by kernel_rfl) Try.ntmps44 (by kernel_rfl) (by kernel_rfl) [a0] (by kernel_rfl) (of_eq_ (by kernel_rfl) h)

/-- shelfmark/shelfmarkref11.form -/
def S45 (a0 a1 : Value) (R : Value → World → Prop) (w : World) : Prop :=
  LoopP (fun J vs w =>   -- [5, 6]
    NextP Try.prog (builtin Go.Builtin.len #[60] 3 #[false] #[a0]) (fun v10 w =>
    LiftP Try.prog (binS Go.BinOp.lss 3 (Go.Operand.tmp 8) (Go.Operand.tmp 10) (vs.tail.headD undef) v10) (fun v11 w =>
    CondP v11 (fun w =>
      JoinP (fun J_1 w =>
      LiftP Try.prog (Instr.indexAt 62 a1 (vs.tail.headD undef)) (fun v16 w =>
      LiftP Try.prog (Instr.loadAt 4 v16) (fun v17 w =>
      LiftP Try.prog (Op.unary Go.UnOp.not v17) (fun v18 w =>
      CondP v18 (fun w =>
        J_1 [(vs.headD undef)] w) (fun w =>
        JoinP (fun J_2 w =>
        LiftP Try.prog (binS Go.BinOp.add 3 (Go.Operand.tmp 19) (Go.Operand.const (Go.Value.int Go.IntKind.i64 1)) (vs.tail.headD undef) (Go.Value.int Go.IntKind.i64 1)) (fun v20 w =>
        NextP Try.prog (builtin Go.Builtin.len #[60] 3 #[false] #[a0]) (fun v22 w =>
        LiftP Try.prog (binS Go.BinOp.lss 3 (Go.Operand.tmp 20) (Go.Operand.tmp 22) v20 v22) (fun v23 w =>
        CondP v23 (fun w =>
          LiftP Try.prog (binS Go.BinOp.add 3 (Go.Operand.tmp 25) (Go.Operand.const (Go.Value.int Go.IntKind.i64 1)) (vs.tail.headD undef) (Go.Value.int Go.IntKind.i64 1)) (fun v26 w =>
          LiftP Try.prog (Instr.indexAt 60 a0 v26) (fun v27 w =>
          LiftP Try.prog (Instr.loadAt 9 v27) (fun v28 w =>
          J_2 [v28] w) w) w) w) (fun w =>
          J_2 [(Go.Value.string { data := #[] })] w) w) w) w) w) (fun vs_2 w =>   -- [7]
      LiftP Try.prog (binS Go.BinOp.gtr 3 (Go.Operand.tmp 29) (Go.Operand.const (Go.Value.int Go.IntKind.i64 0)) (vs.tail.headD undef) (Go.Value.int Go.IntKind.i64 0)) (fun v30 w =>
      GuardP v30 true (fun K w => K a1 w) (fun v32 w =>
      GuardP v30 true (fun K w => K (vs.tail.headD undef) w) (fun v33 w =>
      GuardP v30 true (fun K w => LiftP Try.prog (binS Go.BinOp.sub 3 (Go.Operand.tmp 33) (Go.Operand.const (Go.Value.int Go.IntKind.i64 1)) v33 (Go.Value.int Go.IntKind.i64 1)) K w) (fun v34 w =>
      GuardP v30 true (fun K w => LiftP Try.prog (Instr.indexAt 62 v32 v34) K w) (fun v35 w =>
      GuardP v30 true (fun K w => LiftP Try.prog (Instr.loadAt 4 v35) K w) (fun v36 w =>
      PickP v30 v36 (Go.Value.bool false) (fun v37 w =>
      CondP v37 (fun w =>
        NextP Try.prog (builtin Go.Builtin.len #[26] 3 #[false] #[(vs.headD undef)]) (fun v40 w =>
        LiftP Try.prog (binS Go.BinOp.sub 3 (Go.Operand.tmp 40) (Go.Operand.const (Go.Value.int Go.IntKind.i64 1)) v40 (Go.Value.int Go.IntKind.i64 1)) (fun v41 w =>
        LiftP Try.prog (Instr.indexAt 26 (vs.headD undef) v41) (fun v43 w =>
        LiftP Try.prog (Instr.fieldAt 23 v43 1) (fun v44 w =>
        LiftU Try.prog (Instr.storeAt 9 v44 (vs_2.headD undef)) (fun v_ w =>
        J_1 [(vs.headD undef)] w) w) w) w) w) w) (fun w =>
        LiftP Try.prog (Instr.indexAt 60 a0 (vs.tail.headD undef)) (fun v48 w =>
        LiftP Try.prog (Instr.loadAt 9 v48) (fun v49 w =>
        LiftP Try.prog (Instr.build 23 #[(0, v49), (1, (vs_2.headD undef))]) (fun v51 w =>
        LiftP Try.prog (Instr.buildSlice 26 1 #[(0, v51)]) (fun v52 w =>
        NextP Try.prog (builtin Go.Builtin.append #[26, 26] 26 #[false, false] #[(vs.headD undef), v52]) (fun v53 w =>
        J_1 [v53] w) w) w) w) w) w) w) w) w) w) w) w) w) w) w) w) w) w) w) (fun vs_1 w =>   -- [5]
    LiftP Try.prog (binS Go.BinOp.add 3 (Go.Operand.tmp 12) (Go.Operand.const (Go.Value.int Go.IntKind.i64 1)) (vs.tail.headD undef) (Go.Value.int Go.IntKind.i64 1)) (fun v13 w =>
    J [(vs_1.headD undef), v13] w) w) w) (fun w =>
      R (vs.headD undef) w) w) w) w) [(Go.Value.slice none 0 0), (Go.Value.int Go.IntKind.i64 0)] w
theorem S45.calls (a0 a1 : Value) (R : Value → World → Prop) (w : World) (h : S45 a0 a1 R w) : Calls Try.prog 45 #[a0, a1] w fun e w' => ∃ v, e = .returned v ∧ R v w' :=
  calls_of_tr (n := 55) (c := bodyOf Try.f45) (.two .leaf (.two .leaf (.two (.two .leaf (.one (.loop [5, 6] (.two (.two .leaf (.two .leaf .leaf)) (.join [5] (.one (.two (.two .leaf (.two .leaf .leaf)) (.two .leaf (.join [7] (.two .leaf (.two .leaf .leaf)) (.two .leaf (.two .leaf .leaf)))))) .leaf))))) (.two .leaf .leaf)))) Try.func45 (by kernel_rfl) Try.ntmps45 (by kernel_rfl) (by kernel_rfl) [a0, a1] (by kernel_rfl) (of_eq_ (by kernel_rfl) h)

/-- slices.DeleteFunc[[]shelfmark/api.Range,shelfmark/api.Range] -/
def S46 (a0 a1 : Value) (R : Value → World → Prop) (w : World) : Prop :=
  CallP Try.prog 66 #[a0, a1] (fun v10 w =>
  LiftP Try.prog (binS Go.BinOp.eql 3 (Go.Operand.tmp 11) (Go.Operand.const (Go.Value.int Go.IntKind.i64 (-1))) v10 (Go.Value.int Go.IntKind.i64 (-1))) (fun v12 w =>
  CondP v12 (fun w =>
    R a0 w) (fun w =>
    LiftP Try.prog (binS Go.BinOp.add 3 (Go.Operand.tmp 14) (Go.Operand.const (Go.Value.int Go.IntKind.i64 1)) v10 (Go.Value.int Go.IntKind.i64 1)) (fun v15 w =>
  LoopP (fun J vs w =>   -- [5, 6]
    NextP Try.prog (builtin Go.Builtin.len #[26] 3 #[false] #[a0]) (fun v18 w =>
    LiftP Try.prog (binS Go.BinOp.lss 3 (Go.Operand.tmp 16) (Go.Operand.tmp 18) (vs.tail.headD undef) v18) (fun v19 w =>
    CondP v19 (fun w =>
      JoinP (fun J_1 w =>
      LiftP Try.prog (Instr.indexAt 26 a0 (vs.tail.headD undef)) (fun v24 w =>
      LiftP Try.prog (Instr.loadAt 23 v24) (fun v25 w =>
      LiftP Try.prog (Instr.alloc 23 true (.tuple #[])) (fun v7 w =>
      LiftU Try.prog (Instr.storeAt 23 v7 v25) (fun v_ w =>
      LiftP Try.prog (Instr.loadAt 23 v7) (fun v27 w =>
      NextP Try.prog (callV a1 #[v27]) (fun v28 w =>
      LiftP Try.prog (Op.unary Go.UnOp.not v28) (fun v29 w =>
      CondP v29 (fun w =>
        LiftP Try.prog (Instr.loadAt 23 v7) (fun v32 w =>
        LiftP Try.prog (Instr.indexAt 26 a0 (vs.headD undef)) (fun v33 w =>
        LiftU Try.prog (Instr.storeAt 23 v33 v32) (fun v__1 w =>
        LiftP Try.prog (binS Go.BinOp.add 3 (Go.Operand.tmp 34) (Go.Operand.const (Go.Value.int Go.IntKind.i64 1)) (vs.headD undef) (Go.Value.int Go.IntKind.i64 1)) (fun v35 w =>
        J_1 [v35] w) w) w) w) w) (fun w =>
        J_1 [(vs.headD undef)] w) w) w) w) w) w) w) w) w) (fun vs_1 w =>   -- [5]
    LiftP Try.prog (binS Go.BinOp.add 3 (Go.Operand.tmp 20) (Go.Operand.const (Go.Value.int Go.IntKind.i64 1)) (vs.tail.headD undef) (Go.Value.int Go.IntKind.i64 1)) (fun v21 w =>
    J [(vs_1.headD undef), v21] w) w) w) (fun w =>
      LiftP Try.prog (Instr.sliceAt 26 a0 (some (vs.headD undef)) none none) (fun v38 w =>
  NextP Try.prog (builtin Go.Builtin.clear #[26] 0 #[false] #[v38]) (fun v__2 w =>
  LiftP Try.prog (Instr.sliceAt 26 a0 none (some (vs.headD undef)) none) (fun v41 w =>
  R v41 w) w) w) w) w) w) w) [v10, v15] w) w) w) w) w
theorem S46.calls (a0 a1 : Value) (R : Value → World → Prop) (w : World) (h : S46 a0 a1 R w) : Calls Try.prog 46 #[a0, a1] w fun e w' => ∃ v, e = .returned v ∧ R v w' :=
  calls_of_tr (n := 42) (c := bodyOf Try.f46) (.two .leaf (.two .leaf (.two (.two .leaf (.two (.two .leaf .leaf) .leaf)) (.two (.two .leaf (.one (.loop [5, 6] (.two (.two .leaf (.two .leaf .leaf)) (.join [5] (.one (.two .leaf (.two .leaf (.two (.two .leaf .leaf) .leaf)))) .leaf))))) (.two .leaf (.two .leaf .leaf)))))) Try.func46 (by kernel_rfl) Try.ntmps46 (by kernel_rfl) (by kernel_rfl) [a0, a1] (by kernel_rfl) (of_eq_ (by kernel_rfl) h)

/-- slices.Clone[[]shelfmark/api.Range,shelfmark/api.Range] -/
def S47 (a0 : Value) (R : Value → World → Prop) (w : World) : Prop :=
  LiftP Try.prog (binS Go.BinOp.eql 26 (Go.Operand.tmp 3) (Go.Operand.const (Go.Value.slice none 0 0)) a0 (Go.Value.slice none 0 0)) (fun v4 w =>
  CondP v4 (fun w =>
    R (Go.Value.slice none 0 0) w) (fun w =>
    LiftP Try.prog (Instr.buildSlice 26 0 #[]) (fun v5 w =>
  NextP Try.prog (builtin Go.Builtin.append #[26, 26] 26 #[false, false] #[v5, a0]) (fun v7 w =>
  R v7 w) w) w) w) w
theorem S47.calls (a0 : Value) (R : Value → World → Prop) (w : World) (h : S47 a0 R w) : Calls Try.prog 47 #[a0] w fun e w' => ∃ v, e = .returned v ∧ R v w' :=
  calls_of_tr (n := 8) (c := bodyOf Try.f47) (.two .leaf (.two (.two .leaf (.two (.two .leaf .leaf) .leaf)) (.two .leaf .leaf))) Try.func47 (by kernel_rfl) Try.ntmps47 (by kernel_rfl) (by kernel_rfl) [a0] (by kernel_rfl) (of_eq_ (by kernel_rfl) h)

/-- shelfmark/span.Least$1 -/
def S49 (a0 a1 : Value) (R : Value → World → Prop) (w : World) : Prop :=
  LiftP Try.prog (Instr.box 23 a0) (fun v2 w =>
  LiftP Try.prog (Instr.box 23 a1) (fun v3 w =>
  LiftP Try.prog (Instr.fieldAt 23 v2 0) (fun v5 w =>
  LiftP Try.prog (Instr.loadAt 9 v5) (fun v6 w =>
  LiftP Try.prog (Instr.fieldAt 23 v3 0) (fun v7 w =>
  LiftP Try.prog (Instr.loadAt 9 v7) (fun v8 w =>
  CallP Try.prog 50 #[v6, v8] (fun v9 w =>
  R v9 w) w) w) w) w) w) w) w
theorem S49.calls (a0 a1 : Value) (R : Value → World → Prop) (w : World) (h : S49 a0 a1 R w) : Calls Try.prog 49 #[a0, a1] w fun e w' => ∃ v, e = .returned v ∧ R v w' :=
  calls_of_tr (n := 10) (c := bodyOf Try.f49) (.two .leaf (.two .leaf .leaf)) Try.func49 (by kernel_rfl) Try.ntmps49 (by kernel_rfl) (by kernel_rfl) [a0, a1] (by kernel_rfl) (of_eq_ (by kernel_rfl) h)

/-- cmp.Compare[string] -/
def S50 (a0 a1 : Value) (R : Value → World → Prop) (w : World) : Prop :=
  CallP Try.prog 69 #[a0] (fun v8 w =>
  CallP Try.prog 69 #[a1] (fun v10 w =>
  CondP v8 (fun w =>
    CondP v10 (fun w =>
      R (Go.Value.int Go.IntKind.i64 0) w) (fun w =>
      R (Go.Value.int Go.IntKind.i64 (-1)) w) w) (fun w =>
    CondP v10 (fun w =>
    R (Go.Value.int Go.IntKind.i64 1) w) (fun w =>
    LiftP Try.prog (binS Go.BinOp.lss 9 (Go.Operand.tmp 14) (Go.Operand.tmp 15) a0 a1) (fun v16 w =>
  CondP v16 (fun w =>
    R (Go.Value.int Go.IntKind.i64 (-1)) w) (fun w =>
    LiftP Try.prog (binS Go.BinOp.gtr 9 (Go.Operand.tmp 17) (Go.Operand.tmp 18) a0 a1) (fun v19 w =>
  CondP v19 (fun w =>
    R (Go.Value.int Go.IntKind.i64 1) w) (fun w =>
    R (Go.Value.int Go.IntKind.i64 0) w) w) w) w) w) w) w) w) w
theorem S50.calls (a0 a1 : Value) (R : Value → World → Prop) (w : World) (h : S50 a0 a1 R w) : Calls Try.prog 50 #[a0, a1] w fun e w' => ∃ v, e = .returned v ∧ R v w' :=
  calls_of_tr (n := 20) (c := bodyOf Try.f50) (.two .leaf (.two .leaf (.two .leaf (.two (.two .leaf (.two (.two (.two .leaf (.two (.two .leaf .leaf) .leaf)) (.two .leaf .leaf)) .leaf)) (.two (.two .leaf (.two (.two .leaf .leaf) .leaf)) (.two (.two .leaf (.two (.two .leaf .leaf) .leaf)) (.two (.two .leaf (.two (.two .leaf .leaf) .leaf)) (.two .leaf .leaf)))))))) Try.func50 (by kernel_rfl) Try.ntmps50 (by kernel_rfl) (by kernel_rfl) [a0, a1] (by kernel_rfl) (of_eq_ (by kernel_rfl) h)

/-- shelfmark/shelfmarkref11.In -/
def S51 (a0 a1 : Value) (R : Value → World → Prop) (w : World) : Prop :=
  LoopP (fun J vs w =>   -- [5]
    NextP Try.prog (builtin Go.Builtin.len #[26] 3 #[false] #[a0]) (fun v8 w =>
    LiftP Try.prog (binS Go.BinOp.lss 3 (Go.Operand.tmp 6) (Go.Operand.tmp 8) (vs.headD undef) v8) (fun v9 w =>
    CondP v9 (fun w =>
      LiftP Try.prog (Instr.indexAt 26 a0 (vs.headD undef)) (fun v14 w =>
    LiftP Try.prog (Instr.loadAt 23 v14) (fun v15 w =>
    CallP Try.prog 17 #[v15, a1] (fun v17 w =>
    CondP v17 (fun w =>
      R (Go.Value.bool true) w) (fun w =>
      LiftP Try.prog (binS Go.BinOp.add 3 (Go.Operand.tmp 10) (Go.Operand.const (Go.Value.int Go.IntKind.i64 1)) (vs.headD undef) (Go.Value.int Go.IntKind.i64 1)) (fun v11 w =>
    J [v11] w) w) w) w) w) w) (fun w =>
      R (Go.Value.bool false) w) w) w) w) [(Go.Value.int Go.IntKind.i64 0)] w
theorem S51.calls (a0 a1 : Value) (R : Value → World → Prop) (w : World) (h : S51 a0 a1 R w) : Calls Try.prog 51 #[a0, a1] w fun e w' => ∃ v, e = .returned v ∧ R v w' :=
  calls_of_tr (n := 18) (c := bodyOf Try.f51) (.two .leaf (.two (.two .leaf (.one (.loop [5] (.two (.two .leaf (.two .leaf .leaf)) (.two (.one (.two .leaf (.two (.two .leaf .leaf) .leaf))) .leaf))))) (.two .leaf .leaf))) Try.func51 (by kernel_rfl) Try.ntmps51 (by kernel_rfl) (by kernel_rfl) [a0, a1] (by kernel_rfl) (of_eq_ (by kernel_rfl) h)

/-- slices.ContainsFunc[[]shelfmark/api.Range,shelfmark/api.Range] -/
def S52 (a0 a1 : Value) (R : Value → World → Prop) (w : World) : Prop :=
  CallP Try.prog 66 #[a0, a1] (fun v7 w =>
  LiftP Try.prog (binS Go.BinOp.geq 3 (Go.Operand.tmp 7) (Go.Operand.const (Go.Value.int Go.IntKind.i64 0)) v7 (Go.Value.int Go.IntKind.i64 0)) (fun v8 w =>
  R v8 w) w) w
theorem S52.calls (a0 a1 : Value) (R : Value → World → Prop) (w : World) (h : S52 a0 a1 R w) : Calls Try.prog 52 #[a0, a1] w fun e w' => ∃ v, e = .returned v ∧ R v w' :=
  calls_of_tr (n := 9) (c := bodyOf Try.f52) (.two .leaf (.two .leaf .leaf)) Try.func52 (by kernel_rfl) Try.ntmps52 (by kernel_rfl) (by kernel_rfl) [a0, a1] (by kernel_rfl) (of_eq_ (by kernel_rfl) h)

/-- shelfmark/span.Covers$1 -/
def S53 (a0 a1 : Value) (R : Value → World → Prop) (w : World) : Prop :=
  LiftP Try.prog (Instr.box 23 a0) (fun v2 w =>
  LiftP Try.prog (Instr.loadAt 23 v2) (fun v7 w =>
  LiftP Try.prog (Instr.loadAt 23 a1) (fun v8 w =>
  CallP Try.prog 12 #[v7, v8] (fun v9 w =>
  LiftP Try.prog (Instr.extract v9 0) (fun v10 w =>
  LiftP Try.prog (Instr.extract v9 1) (fun v11 w =>
  LiftP Try.prog (Instr.alloc 23 true (.tuple #[])) (fun v4 w =>
  LiftU Try.prog (Instr.storeAt 23 v4 v10) (fun v_ w =>
  GuardP v11 true (fun K w => LiftP Try.prog (Instr.loadAt 23 v4) K w) (fun v14 w =>
  GuardP v11 true (fun K w => LiftP Try.prog (Instr.loadAt 23 a1) K w) (fun v15 w =>
  GuardP v11 true (fun K w => LiftP Try.prog (binS Go.BinOp.eql 23 (Go.Operand.tmp 14) (Go.Operand.tmp 15) v14 v15) K w) (fun v16 w =>
  PickP v11 v16 (Go.Value.bool false) (fun v17 w =>
  R v17 w) w) w) w) w) w) w) w) w) w) w) w) w
theorem S53.calls (a0 a1 : Value) (R : Value → World → Prop) (w : World) (h : S53 a0 a1 R w) : Calls Try.prog 53 #[a0, a1] w fun e w' => ∃ v, e = .returned v ∧ R v w' :=
  calls_of_tr (n := 18) (c := bodyOf Try.f53) (.two .leaf (.two .leaf (.two .leaf .leaf))) Try.func53 (by kernel_rfl) Try.ntmps53 (by kernel_rfl) (by kernel_rfl) [a0, a1] (by kernel_rfl) (of_eq_ (by kernel_rfl) h)

/-- shelfmark/shelfmarkref11.put -/
def S65 (a0 a1 : Value) (R : Value → World → Prop) (w : World) : Prop :=
  LoopP (fun J vs w =>   -- [5, 6]
    NextP Try.prog (builtin Go.Builtin.len #[60] 3 #[false] #[a0]) (fun v9 w =>
    LiftP Try.prog (binS Go.BinOp.lss 3 (Go.Operand.tmp 7) (Go.Operand.tmp 9) (vs.tail.headD undef) v9) (fun v10 w =>
    GuardP v10 true (fun K w => K a0 w) (fun v12 w =>
    GuardP v10 true (fun K w => K (vs.tail.headD undef) w) (fun v13 w =>
    GuardP v10 true (fun K w => LiftP Try.prog (Instr.indexAt 60 v12 v13) K w) (fun v14 w =>
    GuardP v10 true (fun K w => LiftP Try.prog (Instr.loadAt 9 v14) K w) (fun v15 w =>
    GuardP v10 true (fun K w => K a1 w) (fun v16 w =>
    GuardP v10 true (fun K w => LiftP Try.prog (binS Go.BinOp.lss 9 (Go.Operand.tmp 15) (Go.Operand.tmp 16) v15 v16) K w) (fun v17 w =>
    PickP v10 v17 (Go.Value.bool false) (fun v18 w =>
    CondP v18 (fun w =>
      LiftP Try.prog (Instr.indexAt 60 a0 (vs.tail.headD undef)) (fun v22 w =>
    LiftP Try.prog (Instr.loadAt 9 v22) (fun v23 w =>
    LiftP Try.prog (Instr.buildSlice 60 1 #[(0, v23)]) (fun v24 w =>
    NextP Try.prog (builtin Go.Builtin.append #[60, 60] 60 #[false, false] #[(vs.headD undef), v24]) (fun v25 w =>
    LiftP Try.prog (binS Go.BinOp.add 3 (Go.Operand.tmp 26) (Go.Operand.const (Go.Value.int Go.IntKind.i64 1)) (vs.tail.headD undef) (Go.Value.int Go.IntKind.i64 1)) (fun v27 w =>
    J [v25, v27] w) w) w) w) w) w) (fun w =>
      LiftP Try.prog (Instr.buildSlice 60 1 #[(0, a1)]) (fun v30 w =>
  NextP Try.prog (builtin Go.Builtin.append #[60, 60] 60 #[false, false] #[(vs.headD undef), v30]) (fun v31 w =>
  JoinP (fun J_1 w =>
    NextP Try.prog (builtin Go.Builtin.len #[60] 3 #[false] #[a0]) (fun v34 w =>
    LiftP Try.prog (binS Go.BinOp.lss 3 (Go.Operand.tmp 32) (Go.Operand.tmp 34) (vs.tail.headD undef) v34) (fun v35 w =>
    GuardP v35 true (fun K w => K a0 w) (fun v37 w =>
    GuardP v35 true (fun K w => K (vs.tail.headD undef) w) (fun v38 w =>
    GuardP v35 true (fun K w => LiftP Try.prog (Instr.indexAt 60 v37 v38) K w) (fun v39 w =>
    GuardP v35 true (fun K w => LiftP Try.prog (Instr.loadAt 9 v39) K w) (fun v40 w =>
    GuardP v35 true (fun K w => K a1 w) (fun v41 w =>
    GuardP v35 true (fun K w => LiftP Try.prog (binS Go.BinOp.eql 9 (Go.Operand.tmp 40) (Go.Operand.tmp 41) v40 v41) K w) (fun v42 w =>
    PickP v35 v42 (Go.Value.bool false) (fun v43 w =>
    CondP v43 (fun w =>
      LiftP Try.prog (binS Go.BinOp.add 3 (Go.Operand.tmp 44) (Go.Operand.const (Go.Value.int Go.IntKind.i64 1)) (vs.tail.headD undef) (Go.Value.int Go.IntKind.i64 1)) (fun v45 w =>
      J_1 [v45] w) w) (fun w =>
      J_1 [(vs.tail.headD undef)] w) w) w) w) w) w) w) w) w) w) w) (fun vs_1 w =>   -- [6]
  LiftP Try.prog (Instr.sliceAt 60 a0 (some (vs_1.headD undef)) none none) (fun v49 w =>
  NextP Try.prog (builtin Go.Builtin.append #[60, 60] 60 #[false, false] #[v31, v49]) (fun v50 w =>
  R v50 w) w) w) w) w) w) w) w) w) w) w) w) w) w) w) w) [(Go.Value.slice none 0 0), (Go.Value.int Go.IntKind.i64 0)] w
theorem S65.calls (a0 a1 : Value) (R : Value → World → Prop) (w : World) (h : S65 a0 a1 R w) : Calls Try.prog 65 #[a0, a1] w fun e w' => ∃ v, e = .returned v ∧ R v w' :=
  calls_of_tr (n := 51) (c := bodyOf Try.f65) (.two .leaf (.two .leaf (.two .leaf (.two (.one (.loop [5, 6] (.two (.two .leaf (.two .leaf .leaf)) (.one (.two .leaf .leaf))))) (.two .leaf (.join [6] (.two .leaf (.two .leaf .leaf)) (.two .leaf .leaf))))))) Try.func65 (by kernel_rfl) Try.ntmps65 (by kernel_rfl) (by kernel_rfl) [a0, a1] (by kernel_rfl) (of_eq_ (by kernel_rfl) h)

/-- slices.IndexFunc[[]shelfmark/api.Range,shelfmark/api.Range] -/
def S66 (a0 a1 : Value) (R : Value → World → Prop) (w : World) : Prop :=
  NextP Try.prog (builtin Go.Builtin.len #[26] 3 #[false] #[a0]) (fun v7 w =>
  LoopP (fun J vs w =>   -- [8]
    LiftP Try.prog (binS Go.BinOp.lss 3 (Go.Operand.tmp 8) (Go.Operand.tmp 7) (vs.headD undef) v7) (fun v9 w =>
    CondP v9 (fun w =>
      LiftP Try.prog (Instr.indexAt 26 a0 (vs.headD undef)) (fun v14 w =>
    LiftP Try.prog (Instr.loadAt 23 v14) (fun v15 w =>
    NextP Try.prog (callV a1 #[v15]) (fun v16 w =>
    CondP v16 (fun w =>
      R (vs.headD undef) w) (fun w =>
      LiftP Try.prog (binS Go.BinOp.add 3 (Go.Operand.tmp 8) (Go.Operand.const (Go.Value.int Go.IntKind.i64 1)) (vs.headD undef) (Go.Value.int Go.IntKind.i64 1)) (fun v18 w =>
    J [v18] w) w) w) w) w) w) (fun w =>
      R (Go.Value.int Go.IntKind.i64 (-1)) w) w) w) [(Go.Value.int Go.IntKind.i64 0)] w) w
theorem S66.calls (a0 a1 : Value) (R : Value → World → Prop) (w : World) (h : S66 a0 a1 R w) : Calls Try.prog 66 #[a0, a1] w fun e w' => ∃ v, e = .returned v ∧ R v w' :=
  calls_of_tr (n := 19) (c := bodyOf Try.f66) (.two .leaf (.two (.two .leaf (.one (.loop [8] (.two .leaf (.two (.two .leaf .leaf) (.two (.one (.two .leaf (.two .leaf (.two (.two .leaf .leaf) .leaf)))) .leaf)))))) (.two .leaf .leaf))) Try.func66 (by kernel_rfl) Try.ntmps66 (by kernel_rfl) (by kernel_rfl) [a0, a1] (by kernel_rfl) (of_eq_ (by kernel_rfl) h)

/-- cmp.isNaN[string] -/
def S69 (a0 : Value) (R : Value → World → Prop) (w : World) : Prop :=
  LiftP Try.prog (binS Go.BinOp.neq 9 (Go.Operand.tmp 3) (Go.Operand.tmp 4) a0 a0) (fun v5 w =>
  R v5 w) w
theorem S69.calls (a0 : Value) (R : Value → World → Prop) (w : World) (h : S69 a0 R w) : Calls Try.prog 69 #[a0] w fun e w' => ∃ v, e = .returned v ∧ R v w' :=
  calls_of_tr (n := 6) (c := bodyOf Try.f69) (.two .leaf (.two .leaf .leaf)) Try.func69 (by kernel_rfl) Try.ntmps69 (by kernel_rfl) (by kernel_rfl) [a0] (by kernel_rfl) (of_eq_ (by kernel_rfl) h)

end Go.Proofs.Ytcihbjempijhpaa.E
