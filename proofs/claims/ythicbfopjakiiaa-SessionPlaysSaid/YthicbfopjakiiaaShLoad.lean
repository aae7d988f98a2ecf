import Derived.Test.YthicbfopjakiiaaE4
import Derived.Test.YthicbfopjakiiaaProg
import Derived.KernelRfl
namespace Go.Proofs.Ythicbfopjakiiaa.E
open Go
set_option maxRecDepth 100000

/-- shelfmark/shelfmarklaw15.SessionLoads -/
def S4 (a0 : Value) (R : Value → World → Prop) (w : World) : Prop :=
  CallP Try.prog 11 #[] (fun v9 w =>
  LiftP Try.prog (Op.unary Go.UnOp.not v9) (fun v10 w =>
  CondP v10 (fun w =>
    R (Go.Value.bool false) w) (fun w =>
    NextP Try.prog (builtin Go.Builtin.len #[9] 3 #[false] #[a0]) (fun v12 w =>
  LiftP Try.prog (binS Go.BinOp.gtr 3 (Go.Operand.tmp 12) (Go.Operand.const (Go.Value.int Go.IntKind.i64 3000)) v12 (Go.Value.int Go.IntKind.i64 3000)) (fun v13 w =>
  CondP v13 (fun w =>
    R (Go.Value.bool true) w) (fun w =>
    CallP Try.prog 16 #[a0] (fun v16 w =>
  LiftP Try.prog (Instr.extract v16 0) (fun v17 w =>
  LiftP Try.prog (Instr.extract v16 1) (fun v18 w =>
  CallP Try.prog 17 #[a0] (fun v21 w =>
  LiftP Try.prog (Instr.extract v21 0) (fun v22 w =>
  LiftP Try.prog (Instr.extract v21 1) (fun v23 w =>
  LiftP Try.prog (binS Go.BinOp.neq 25 (Go.Operand.tmp 24) (Go.Operand.tmp 25) v18 v23) (fun v26 w =>
  GuardP v26 false (fun K w => K v17 w) (fun v28 w =>
  GuardP v26 false (fun K w => LiftP Try.prog (binS Go.BinOp.eql 23 (Go.Operand.tmp 28) (Go.Operand.const (Go.Value.pointer none)) v28 (Go.Value.pointer none)) K w) (fun v29 w =>
  GuardP v26 false (fun K w => K v22 w) (fun v30 w =>
  GuardP v26 false (fun K w => LiftP Try.prog (binS Go.BinOp.eql 34 (Go.Operand.tmp 30) (Go.Operand.const (Go.Value.pointer none)) v30 (Go.Value.pointer none)) K w) (fun v31 w =>
  GuardP v26 false (fun K w => LiftP Try.prog (binS Go.BinOp.neq 4 (Go.Operand.tmp 29) (Go.Operand.tmp 31) v29 v31) K w) (fun v32 w =>
  PickP v26 (Go.Value.bool true) v32 (fun v33 w =>
  CondP v33 (fun w =>
    R (Go.Value.bool false) w) (fun w =>
    LiftP Try.prog (binS Go.BinOp.eql 23 (Go.Operand.tmp 34) (Go.Operand.const (Go.Value.pointer none)) v17 (Go.Value.pointer none)) (fun v35 w =>
  GuardP v35 false (fun K w => K v22 w) (fun v37 w =>
  GuardP v35 false (fun K w => LiftP Try.prog (binS Go.BinOp.eql 34 (Go.Operand.tmp 37) (Go.Operand.const (Go.Value.pointer none)) v37 (Go.Value.pointer none)) K w) (fun v38 w =>
  PickP v35 (Go.Value.bool true) v38 (fun v39 w =>
  CondP v39 (fun w =>
    R (Go.Value.bool true) w) (fun w =>
    CallP Try.prog 18 #[v22, (Go.Value.int Go.IntKind.i64 300)] (fun v42 w =>
  LiftP Try.prog (Instr.extract v42 0) (fun v43 w =>
  LiftP Try.prog (Instr.extract v42 1) (fun v44 w =>
  DrawP (fun S w =>
  ActP S (fun K w => CallP Try.prog 19 #[v17] K w) (fun S v46 w =>
  YieldP Try.prog S (binS Go.BinOp.eql 9 (Go.Operand.tmp 46) (Go.Operand.tmp 47) v46 a0) (fun v48 w =>
  GuardP v48 true (fun K w => K v17 w) (fun v50 w =>
  GuardP v48 true (fun K w => K v22 w) (fun v52 w =>
  GuardP v48 true (fun K w => YieldN Try.prog S (nilChk v52) K w) (fun v53 w =>
  GuardP v48 true (fun K w => YieldP Try.prog S (Instr.fieldAt 42 v53 0) K w) (fun v54 w =>
  GuardP v48 true (fun K w => YieldP Try.prog S (Instr.loadAt 3 v54) K w) (fun v55 w =>
  GuardA v48 true S (fun K w => CallP Try.prog 20 #[v50] K w) (fun S v51 w =>
  GuardP v48 true (fun K w => YieldP Try.prog S (binS Go.BinOp.eql 3 (Go.Operand.tmp 51) (Go.Operand.tmp 55) v51 v55) K w) (fun v56 w =>
  PickP v48 v56 (Go.Value.bool false) (fun v57 w =>
  GuardP v57 true (fun K w => K v17 w) (fun v59 w =>
  GuardP v57 true (fun K w => K v43 w) (fun v61 w =>
  GuardP v57 true (fun K w => K v44 w) (fun v62 w =>
  GuardA v57 true S (fun K w => CallP Try.prog 22 #[v59, (Go.Value.int Go.IntKind.i64 300)] K w) (fun S v60 w =>
  GuardA v57 true S (fun K w => CallP Try.prog 21 #[v60, v61, v62] K w) (fun S v63 w =>
  PickP v57 v63 (Go.Value.bool false) (fun v64 w =>
  R v64 w) w) w) w) w) w) w) w) w) w) w) w) w) w) w) w) w) w) w) w) w) w) w) w) w) w) w) w) w) w) w) w) w) w) w) w) w) w) w) w) w) w) w) w) w) w
theorem S4.calls (a0 : Value) (R : Value → World → Prop) (w : World) (h : S4 a0 R w) : Calls Try.prog 4 #[a0] w fun e w' => ∃ v, e = .returned v ∧ R v w' :=
  calls_of_tr (n := 65) (c := bodyOf Try.f4) (.two .leaf (.two (.two .leaf (.two (.two .leaf .leaf) .leaf)) (.two (.two .leaf (.two (.two .leaf .leaf) .leaf)) (.two .leaf (.two .leaf (.two (.two .leaf (.two (.two .leaf .leaf) .leaf)) (.two (.two .leaf (.two (.two .leaf .leaf) .leaf)) (.two .leaf (.two (.draw [(true, 0), (true, 2), (false, 1), (true, 3), (true, 4), (true, 5), (true, 7), (true, 8), (true, 9), (true, 10), (false, 6), (true, 11), (true, 12), (true, 13), (true, 14), (true, 16), (true, 17), (false, 15), (false, 18), (true, 19), (true, 20)]) .leaf))))))))) Try.func4 (by kernel_rfl) Try.ntmps4 (by kernel_rfl) (by kernel_rfl) [a0] (by kernel_rfl) (of_eq_ (by kernel_rfl) h)

/-- shelfmark/session.Load -/
def S16 (a0 : Value) (R : Value → World → Prop) (w : World) : Prop :=
  LiftP Try.prog (convert 9 30 a0) (fun v13 w =>
  LiftP Try.prog (Instr.build 101 #[]) (fun v14 w =>
  LiftP Try.prog (Instr.box 101 v14) (fun v15 w =>
  DrawP (fun S w =>
  YieldN Try.prog S (nilChk v15) (fun v17 w =>
  YieldP Try.prog S (Instr.fieldAt 101 v17 0) (fun v18 w =>
  YieldN Try.prog S (nilChk v15) (fun v20 w =>
  YieldP Try.prog S (Instr.fieldAt 101 v20 1) (fun v21 w =>
  ActP S (fun K w => LiftP Try.prog (Instr.buildSlice 103 2 #[(0, v18), (1, v21)]) K w) (fun S v22 w =>
  YieldN Try.prog S (builtin Go.Builtin.len #[103] 3 #[false] #[v22]) (fun v23 w =>
  LoopP (fun J vs w =>   -- [6, 24]
    LiftP Try.prog (binS Go.BinOp.lss 3 (Go.Operand.tmp 24) (Go.Operand.tmp 23) (vs.tail.headD undef) v23) (fun v25 w =>
    CondP v25 (fun w =>
      LiftP Try.prog (Instr.indexAt 103 v22 (vs.tail.headD undef)) (fun v26 w =>
    LiftP Try.prog (Instr.loadAt 102 v26) (fun v27 w =>
    CallP Try.prog 50 #[v13, (vs.headD undef)] (fun v32 w =>
    LiftP Try.prog (Instr.extract v32 0) (fun v33 w =>
    LiftP Try.prog (Instr.extract v32 1) (fun v34 w =>
    LiftP Try.prog (Instr.extract v32 2) (fun v35 w =>
    NextP Try.prog (nilChk v27) (fun v36 w =>
    LiftU Try.prog (Instr.storeAt 3 v36 v33) (fun v_ w =>
    LiftP Try.prog (binS Go.BinOp.neq 25 (Go.Operand.tmp 37) (Go.Operand.const (Go.Value.int Go.IntKind.i64 0)) v35 (Go.Value.int Go.IntKind.i64 0)) (fun v38 w =>
    CondP v38 (fun w =>
      R (.tuple #[(Go.Value.pointer none), v35]) w) (fun w =>
      LiftP Try.prog (binS Go.BinOp.add 3 (Go.Operand.tmp 24) (Go.Operand.const (Go.Value.int Go.IntKind.i64 1)) (vs.tail.headD undef) (Go.Value.int Go.IntKind.i64 1)) (fun v40 w =>
    J [v34, v40] w) w) w) w) w) w) w) w) w) w) w) w) (fun w =>
      NextP Try.prog (nilChk v15) (fun v42 w =>
  LiftP Try.prog (Instr.fieldAt 101 v42 0) (fun v43 w =>
  LiftP Try.prog (Instr.loadAt 3 v43) (fun v44 w =>
  LiftP Try.prog (binS Go.BinOp.gtr 3 (Go.Operand.tmp 44) (Go.Operand.const (Go.Value.int Go.IntKind.i64 1099511627776)) v44 (Go.Value.int Go.IntKind.i64 1099511627776)) (fun v45 w =>
  GuardP v45 false (fun K w => K v15 w) (fun v47 w =>
  GuardP v45 false (fun K w => NextP Try.prog (nilChk v47) K w) (fun v48 w =>
  GuardP v45 false (fun K w => LiftP Try.prog (Instr.fieldAt 101 v48 1) K w) (fun v49 w =>
  GuardP v45 false (fun K w => LiftP Try.prog (Instr.loadAt 3 v49) K w) (fun v50 w =>
  GuardP v45 false (fun K w => LiftP Try.prog (binS Go.BinOp.gtr 3 (Go.Operand.tmp 50) (Go.Operand.const (Go.Value.int Go.IntKind.i64 1099511627776)) v50 (Go.Value.int Go.IntKind.i64 1099511627776)) K w) (fun v51 w =>
  PickP v45 (Go.Value.bool true) v51 (fun v52 w =>
  CondP v52 (fun w =>
    R (.tuple #[(Go.Value.pointer none), (Go.Value.int Go.IntKind.i64 3)]) w) (fun w =>
    CallP Try.prog 51 #[v13, (vs.headD undef), (Go.Value.int Go.IntKind.i64 256), (Go.Value.int Go.IntKind.i64 65536)] (fun v56 w =>
  LiftP Try.prog (Instr.extract v56 0) (fun v57 w =>
  LiftP Try.prog (Instr.extract v56 1) (fun v58 w =>
  LiftP Try.prog (Instr.extract v56 2) (fun v59 w =>
  JoinP (fun J_1 w =>
    LiftP Try.prog (binS Go.BinOp.eql 25 (Go.Operand.tmp 60) (Go.Operand.const (Go.Value.int Go.IntKind.i64 0)) v59 (Go.Value.int Go.IntKind.i64 0)) (fun v61 w =>
    GuardP v61 true (fun K w => K v57 w) (fun v63 w =>
    GuardP v61 true (fun K w => NextP Try.prog (builtin Go.Builtin.len #[37] 3 #[false] #[v63]) K w) (fun v64 w =>
    GuardP v61 true (fun K w => K v15 w) (fun v65 w =>
    GuardP v61 true (fun K w => NextP Try.prog (nilChk v65) K w) (fun v66 w =>
    GuardP v61 true (fun K w => LiftP Try.prog (Instr.fieldAt 101 v66 1) K w) (fun v67 w =>
    GuardP v61 true (fun K w => LiftP Try.prog (Instr.loadAt 3 v67) K w) (fun v68 w =>
    GuardP v61 true (fun K w => LiftP Try.prog (binS Go.BinOp.gtr 3 (Go.Operand.tmp 64) (Go.Operand.tmp 68) v64 v68) K w) (fun v69 w =>
    GuardP v61 true (fun K w => K v69 w) (fun v70 w =>
    GuardP v70 false (fun K w => K v58 w) (fun v71 w =>
    GuardP v70 false (fun K w => K v13 w) (fun v72 w =>
    GuardP v70 false (fun K w => NextP Try.prog (builtin Go.Builtin.len #[30] 3 #[false] #[v72]) K w) (fun v73 w =>
    GuardP v70 false (fun K w => LiftP Try.prog (binS Go.BinOp.neq 3 (Go.Operand.tmp 71) (Go.Operand.tmp 73) v71 v73) K w) (fun v74 w =>
    GuardP v61 true (fun K w => PickP v70 (Go.Value.bool true) v74 K w) (fun v75 w =>
    PickP v61 v75 (Go.Value.bool false) (fun v76 w =>
    CondP v76 (fun w =>
      J_1 [(Go.Value.int Go.IntKind.i64 3)] w) (fun w =>
      J_1 [v59] w) w) w) w) w) w) w) w) w) w) w) w) w) w) w) w) w) (fun vs_1 w =>   -- [11]
  LiftP Try.prog (binS Go.BinOp.neq 25 (Go.Operand.tmp 77) (Go.Operand.const (Go.Value.int Go.IntKind.i64 0)) (vs_1.headD undef) (Go.Value.int Go.IntKind.i64 0)) (fun v78 w =>
  CondP v78 (fun w =>
    R (.tuple #[(Go.Value.pointer none), (vs_1.headD undef)]) w) (fun w =>
    NextP Try.prog (nilChk v15) (fun v82 w =>
  LiftP Try.prog (Instr.fieldAt 101 v82 2) (fun v83 w =>
  LiftU Try.prog (Instr.storeAt 37 v83 v57) (fun v__1 w =>
  R (.tuple #[v15, (Go.Value.int Go.IntKind.i64 0)]) w) w) w) w) w) w) w) w) w) w) w) w) w) w) w) w) w) w) w) w) w) w) w) w) [(Go.Value.int Go.IntKind.i64 0), (Go.Value.int Go.IntKind.i64 0)] w) w) w) w) w) w) w) w) w) w) w
theorem S16.calls (a0 : Value) (R : Value → World → Prop) (w : World) (h : S16 a0 R w) : Calls Try.prog 16 #[a0] w fun e w' => ∃ v, e = .returned v ∧ R v w' :=
  calls_of_tr (n := 85) (c := bodyOf Try.f16) (.two .leaf (.two .leaf (.two .leaf (.two (.two (.draw [(true, 0), (true, 1), (true, 2), (true, 3), (true, 4), (true, 5), (true, 8), (false, 6), (true, 7)]) (.one (.loop [6, 24] (.two .leaf (.two (.two .leaf .leaf) (.two (.one (.two .leaf (.two .leaf (.two .leaf (.two .leaf (.two (.two .leaf .leaf) .leaf)))))) .leaf)))))) (.two (.two .leaf (.two (.two .leaf .leaf) .leaf)) (.two .leaf (.join [11] (.two .leaf (.two .leaf .leaf)) (.two (.two .leaf (.two (.two .leaf .leaf) .leaf)) (.two .leaf (.two .leaf .leaf)))))))))) Try.func16 (by kernel_rfl) Try.ntmps16 (by kernel_rfl) (by kernel_rfl) [a0] (by kernel_rfl) (of_eq_ (by kernel_rfl) h)

/-- shelfmark/shelfmarkref15.Load -/
def S17 (a0 : Value) (R : Value → World → Prop) (w : World) : Prop :=
  LiftP Try.prog (convert 9 30 a0) (fun v9 w =>
  CallP Try.prog 52 #[v9, (Go.Value.int Go.IntKind.i64 0)] (fun v11 w =>
  LiftP Try.prog (Instr.alloc 109 true (.tuple #[])) (fun v5 w =>
  LiftU Try.prog (Instr.storeAt 109 v5 v11) (fun v_ w =>
  LiftP Try.prog (Instr.fieldAt 109 v5 4) (fun v12 w =>
  LiftP Try.prog (Instr.loadAt 25 v12) (fun v13 w =>
  LiftP Try.prog (binS Go.BinOp.neq 25 (Go.Operand.tmp 13) (Go.Operand.const (Go.Value.int Go.IntKind.i64 0)) v13 (Go.Value.int Go.IntKind.i64 0)) (fun v14 w =>
  CondP v14 (fun w =>
    DrawP (fun S w =>
    YieldP Try.prog S (Instr.fieldAt 109 v5 4) (fun v15 w =>
    YieldP Try.prog S (Instr.loadAt 25 v15) (fun v16 w =>
    R (.tuple #[(Go.Value.pointer none), v16]) w) w) w) w) (fun w =>
    LiftP Try.prog (Instr.fieldAt 109 v5 3) (fun v18 w =>
  LiftP Try.prog (Instr.loadAt 3 v18) (fun v19 w =>
  CallP Try.prog 52 #[v9, v19] (fun v20 w =>
  LiftP Try.prog (Instr.alloc 109 true (.tuple #[])) (fun v6 w =>
  LiftU Try.prog (Instr.storeAt 109 v6 v20) (fun v__1 w =>
  LiftP Try.prog (Instr.fieldAt 109 v6 4) (fun v21 w =>
  LiftP Try.prog (Instr.loadAt 25 v21) (fun v22 w =>
  LiftP Try.prog (binS Go.BinOp.neq 25 (Go.Operand.tmp 22) (Go.Operand.const (Go.Value.int Go.IntKind.i64 0)) v22 (Go.Value.int Go.IntKind.i64 0)) (fun v23 w =>
  CondP v23 (fun w =>
    DrawP (fun S w =>
    YieldP Try.prog S (Instr.fieldAt 109 v6 4) (fun v24 w =>
    YieldP Try.prog S (Instr.loadAt 25 v24) (fun v25 w =>
    R (.tuple #[(Go.Value.pointer none), v25]) w) w) w) w) (fun w =>
    LiftP Try.prog (Instr.fieldAt 109 v5 0) (fun v26 w =>
  LiftP Try.prog (Instr.loadAt 3 v26) (fun v27 w =>
  LiftP Try.prog (binS Go.BinOp.gtr 3 (Go.Operand.tmp 27) (Go.Operand.const (Go.Value.int Go.IntKind.i64 1099511627776)) v27 (Go.Value.int Go.IntKind.i64 1099511627776)) (fun v28 w =>
  GuardP v28 false (fun K w => LiftP Try.prog (Instr.fieldAt 109 v6 0) K w) (fun v30 w =>
  GuardP v28 false (fun K w => LiftP Try.prog (Instr.loadAt 3 v30) K w) (fun v31 w =>
  GuardP v28 false (fun K w => LiftP Try.prog (binS Go.BinOp.gtr 3 (Go.Operand.tmp 31) (Go.Operand.const (Go.Value.int Go.IntKind.i64 1099511627776)) v31 (Go.Value.int Go.IntKind.i64 1099511627776)) K w) (fun v32 w =>
  PickP v28 (Go.Value.bool true) v32 (fun v33 w =>
  CondP v33 (fun w =>
    R (.tuple #[(Go.Value.pointer none), (Go.Value.int Go.IntKind.i64 3)]) w) (fun w =>
    LiftP Try.prog (Instr.fieldAt 109 v6 3) (fun v35 w =>
  LiftP Try.prog (Instr.loadAt 3 v35) (fun v36 w =>
  CallP Try.prog 53 #[v9, v36, (Go.Value.int Go.IntKind.i64 256), (Go.Value.int Go.IntKind.i64 65536)] (fun v37 w =>
  LiftP Try.prog (Instr.alloc 109 true (.tuple #[])) (fun v7 w =>
  LiftU Try.prog (Instr.storeAt 109 v7 v37) (fun v__2 w =>
  LiftP Try.prog (Instr.fieldAt 109 v7 4) (fun v38 w =>
  LiftP Try.prog (Instr.loadAt 25 v38) (fun v39 w =>
  LiftP Try.prog (binS Go.BinOp.neq 25 (Go.Operand.tmp 39) (Go.Operand.const (Go.Value.int Go.IntKind.i64 0)) v39 (Go.Value.int Go.IntKind.i64 0)) (fun v40 w =>
  CondP v40 (fun w =>
    DrawP (fun S w =>
    YieldP Try.prog S (Instr.fieldAt 109 v7 4) (fun v41 w =>
    YieldP Try.prog S (Instr.loadAt 25 v41) (fun v42 w =>
    R (.tuple #[(Go.Value.pointer none), v42]) w) w) w) w) (fun w =>
    LiftP Try.prog (Instr.fieldAt 109 v7 2) (fun v43 w =>
  LiftP Try.prog (Instr.loadAt 37 v43) (fun v44 w =>
  NextP Try.prog (builtin Go.Builtin.len #[37] 3 #[false] #[v44]) (fun v45 w =>
  LiftP Try.prog (Instr.fieldAt 109 v6 0) (fun v46 w =>
  LiftP Try.prog (Instr.loadAt 3 v46) (fun v47 w =>
  LiftP Try.prog (binS Go.BinOp.gtr 3 (Go.Operand.tmp 45) (Go.Operand.tmp 47) v45 v47) (fun v48 w =>
  GuardP v48 false (fun K w => LiftP Try.prog (Instr.fieldAt 109 v7 3) K w) (fun v50 w =>
  GuardP v48 false (fun K w => LiftP Try.prog (Instr.loadAt 3 v50) K w) (fun v51 w =>
  GuardP v48 false (fun K w => K v9 w) (fun v52 w =>
  GuardP v48 false (fun K w => NextP Try.prog (builtin Go.Builtin.len #[30] 3 #[false] #[v52]) K w) (fun v53 w =>
  GuardP v48 false (fun K w => LiftP Try.prog (binS Go.BinOp.neq 3 (Go.Operand.tmp 51) (Go.Operand.tmp 53) v51 v53) K w) (fun v54 w =>
  PickP v48 (Go.Value.bool true) v54 (fun v55 w =>
  CondP v55 (fun w =>
    R (.tuple #[(Go.Value.pointer none), (Go.Value.int Go.IntKind.i64 3)]) w) (fun w =>
    LiftP Try.prog (Instr.fieldAt 109 v5 0) (fun v56 w =>
  LiftP Try.prog (Instr.loadAt 3 v56) (fun v57 w =>
  LiftP Try.prog (Instr.fieldAt 109 v6 0) (fun v58 w =>
  LiftP Try.prog (Instr.loadAt 3 v58) (fun v59 w =>
  LiftP Try.prog (Instr.fieldAt 109 v7 2) (fun v60 w =>
  LiftP Try.prog (Instr.loadAt 37 v60) (fun v61 w =>
  NextP Try.prog (builtin Go.Builtin.len #[37] 3 #[false] #[v61]) (fun v62 w =>
  LiftP Try.prog (binS Go.BinOp.sub 3 (Go.Operand.tmp 59) (Go.Operand.tmp 62) v59 v62) (fun v63 w =>
  LiftP Try.prog (Instr.fieldAt 109 v7 2) (fun v64 w =>
  LiftP Try.prog (Instr.loadAt 37 v64) (fun v65 w =>
  LiftP Try.prog (Instr.build 42 #[(0, v57), (1, v63), (2, v65)]) (fun v66 w =>
  LiftP Try.prog (Instr.box 42 v66) (fun v67 w =>
  R (.tuple #[v67, (Go.Value.int Go.IntKind.i64 0)]) w) w) w) w) w) w) w) w) w) w) w) w) w) w) w) w) w) w) w) w) w) w) w) w) w) w) w) w) w) w) w) w) w) w) w) w) w) w) w) w) w) w) w) w) w) w) w) w) w) w) w) w) w) w) w) w) w) w) w) w
theorem S17.calls (a0 : Value) (R : Value → World → Prop) (w : World) (h : S17 a0 R w) : Calls Try.prog 17 #[a0] w fun e w' => ∃ v, e = .returned v ∧ R v w' :=
  calls_of_tr (n := 68) (c := bodyOf Try.f17) (.two .leaf (.two .leaf (.two .leaf (.two (.two .leaf (.two (.two (.draw [(true, 0), (true, 1), (true, 2), (true, 3)]) .leaf) .leaf)) (.two .leaf (.two (.two .leaf (.two (.two (.draw [(true, 0), (true, 1), (true, 2), (true, 3)]) .leaf) .leaf)) (.two (.two .leaf (.two (.two .leaf .leaf) .leaf)) (.two .leaf (.two (.two .leaf (.two (.two (.draw [(true, 0), (true, 1), (true, 2), (true, 3)]) .leaf) .leaf)) (.two (.two .leaf (.two (.two .leaf .leaf) .leaf)) (.two .leaf .leaf))))))))))) Try.func17 (by kernel_rfl) Try.ntmps17 (by kernel_rfl) (by kernel_rfl) [a0] (by kernel_rfl) (of_eq_ (by kernel_rfl) h)

/-- (*shelfmark/shelfmarkref15.End).Post -/
def S18 (a0 a1 : Value) (R : Value → World → Prop) (w : World) : Prop :=
  LiftP Try.prog (binS Go.BinOp.lss 3 (Go.Operand.tmp 6) (Go.Operand.const (Go.Value.int Go.IntKind.i64 1)) a1 (Go.Value.int Go.IntKind.i64 1)) (fun v7 w =>
  CondP v7 (fun w =>
    R (.tuple #[(Go.Value.slice none 0 0), (Go.Value.int Go.IntKind.i64 0)]) w) (fun w =>
    JoinP (fun J w =>
    NextP Try.prog (nilChk a0) (fun v10 w =>
    LiftP Try.prog (Instr.fieldAt 42 v10 2) (fun v11 w =>
    LiftP Try.prog (Instr.loadAt 37 v11) (fun v12 w =>
    NextP Try.prog (builtin Go.Builtin.len #[37] 3 #[false] #[v12]) (fun v13 w =>
    LiftP Try.prog (binS Go.BinOp.gtr 3 (Go.Operand.tmp 8) (Go.Operand.tmp 13) a1 v13) (fun v14 w =>
    CondP v14 (fun w =>
      NextP Try.prog (nilChk a0) (fun v16 w =>
      LiftP Try.prog (Instr.fieldAt 42 v16 2) (fun v17 w =>
      LiftP Try.prog (Instr.loadAt 37 v17) (fun v18 w =>
      NextP Try.prog (builtin Go.Builtin.len #[37] 3 #[false] #[v18]) (fun v19 w =>
      J [v19] w) w) w) w) w) (fun w =>
      J [a1] w) w) w) w) w) w) w) (fun vs w =>   -- [1]
  DrawP (fun S w =>
  YieldN Try.prog S (nilChk a0) (fun v21 w =>
  YieldP Try.prog S (Instr.fieldAt 42 v21 2) (fun v22 w =>
  YieldP Try.prog S (Instr.loadAt 37 v22) (fun v23 w =>
  YieldP Try.prog S (Instr.sliceAt 37 v23 none (some (vs.headD undef)) none) (fun v25 w =>
  YieldN Try.prog S (nilChk a0) (fun v27 w =>
  YieldP Try.prog S (Instr.fieldAt 42 v27 1) (fun v28 w =>
  YieldP Try.prog S (Instr.loadAt 3 v28) (fun v29 w =>
  YieldP Try.prog S (binS Go.BinOp.add 3 (Go.Operand.tmp 29) (Go.Operand.const (Go.Value.int Go.IntKind.i64 1)) v29 (Go.Value.int Go.IntKind.i64 1)) (fun v30 w =>
  R (.tuple #[v25, v30]) w) w) w) w) w) w) w) w) w) w) w) w) w
theorem S18.calls (a0 a1 : Value) (R : Value → World → Prop) (w : World) (h : S18 a0 a1 R w) : Calls Try.prog 18 #[a0, a1] w fun e w' => ∃ v, e = .returned v ∧ R v w' :=
  calls_of_tr (n := 31) (c := bodyOf Try.f18) (.two .leaf (.two (.two .leaf (.two (.two .leaf .leaf) .leaf)) (.join [1] (.two .leaf (.two .leaf .leaf)) (.two (.draw [(true, 0), (true, 1), (true, 2), (true, 3), (true, 4), (true, 5), (true, 6), (true, 7), (true, 8), (true, 9), (true, 10), (true, 11), (true, 12)]) .leaf)))) Try.func18 (by kernel_rfl) Try.ntmps18 (by kernel_rfl) (by kernel_rfl) [a0, a1] (by kernel_rfl) (of_eq_ (by kernel_rfl) h)

/-- (*shelfmark/session.End).Mark -/
def S20 (a0 : Value) (R : Value → World → Prop) (w : World) : Prop :=
  NextP Try.prog (nilChk a0) (fun v4 w =>
  LiftP Try.prog (Instr.fieldAt 101 v4 0) (fun v5 w =>
  LiftP Try.prog (Instr.loadAt 3 v5) (fun v6 w =>
  R v6 w) w) w) w
theorem S20.calls (a0 : Value) (R : Value → World → Prop) (w : World) (h : S20 a0 R w) : Calls Try.prog 20 #[a0] w fun e w' => ∃ v, e = .returned v ∧ R v w' :=
  calls_of_tr (n := 7) (c := bodyOf Try.f20) (.two .leaf (.two .leaf .leaf)) Try.func20 (by kernel_rfl) Try.ntmps20 (by kernel_rfl) (by kernel_rfl) [a0] (by kernel_rfl) (of_eq_ (by kernel_rfl) h)

/-- shelfmark/shelfmarklaw15.same -/
def S21 (a0 a1 a2 : Value) (R : Value → World → Prop) (w : World) : Prop :=
  NextP Try.prog (builtin Go.Builtin.len #[44] 3 #[false] #[a0]) (fun v9 w =>
  NextP Try.prog (builtin Go.Builtin.len #[37] 3 #[false] #[a1]) (fun v11 w =>
  LiftP Try.prog (binS Go.BinOp.neq 3 (Go.Operand.tmp 9) (Go.Operand.tmp 11) v9 v11) (fun v12 w =>
  CondP v12 (fun w =>
    R (Go.Value.bool false) w) (fun w =>
    LoopP (fun J vs w =>   -- [7]
    NextP Try.prog (builtin Go.Builtin.len #[44] 3 #[false] #[a0]) (fun v15 w =>
    LiftP Try.prog (binS Go.BinOp.lss 3 (Go.Operand.tmp 13) (Go.Operand.tmp 15) (vs.headD undef) v15) (fun v16 w =>
    CondP v16 (fun w =>
      DrawP (fun S w =>
    YieldP Try.prog S (Instr.indexAt 44 a0 (vs.headD undef)) (fun v21 w =>
    YieldP Try.prog S (Instr.fieldAt 99 v21 1) (fun v22 w =>
    YieldP Try.prog S (Instr.loadAt 9 v22) (fun v23 w =>
    YieldP Try.prog S (Instr.indexAt 37 a1 (vs.headD undef)) (fun v26 w =>
    YieldP Try.prog S (Instr.loadAt 9 v26) (fun v27 w =>
    YieldP Try.prog S (binS Go.BinOp.neq 9 (Go.Operand.tmp 23) (Go.Operand.tmp 27) v23 v27) (fun v28 w =>
    GuardP v28 false (fun K w => K a0 w) (fun v30 w =>
    GuardP v28 false (fun K w => K (vs.headD undef) w) (fun v31 w =>
    GuardP v28 false (fun K w => YieldP Try.prog S (Instr.indexAt 44 v30 v31) K w) (fun v32 w =>
    GuardP v28 false (fun K w => YieldP Try.prog S (Instr.fieldAt 99 v32 0) K w) (fun v33 w =>
    GuardP v28 false (fun K w => YieldP Try.prog S (Instr.loadAt 3 v33) K w) (fun v34 w =>
    GuardP v28 false (fun K w => K (vs.headD undef) w) (fun v35 w =>
    GuardP v28 false (fun K w => YieldP Try.prog S (binS Go.BinOp.sub 3 (Go.Operand.tmp 34) (Go.Operand.tmp 35) v34 v35) K w) (fun v36 w =>
    GuardP v28 false (fun K w => K a2 w) (fun v37 w =>
    GuardP v28 false (fun K w => YieldP Try.prog S (binS Go.BinOp.neq 3 (Go.Operand.tmp 36) (Go.Operand.tmp 37) v36 v37) K w) (fun v38 w =>
    PickP v28 (Go.Value.bool true) v38 (fun v39 w =>
    CondP v39 (fun w =>
      R (Go.Value.bool false) w) (fun w =>
      LiftP Try.prog (binS Go.BinOp.add 3 (Go.Operand.tmp 17) (Go.Operand.const (Go.Value.int Go.IntKind.i64 1)) (vs.headD undef) (Go.Value.int Go.IntKind.i64 1)) (fun v18 w =>
    J [v18] w) w) w) w) w) w) w) w) w) w) w) w) w) w) w) w) w) w) w) w) (fun w =>
      R (Go.Value.bool true) w) w) w) w) [(Go.Value.int Go.IntKind.i64 0)] w) w) w) w) w
theorem S21.calls (a0 a1 a2 : Value) (R : Value → World → Prop) (w : World) (h : S21 a0 a1 a2 R w) : Calls Try.prog 21 #[a0, a1, a2] w fun e w' => ∃ v, e = .returned v ∧ R v w' :=
  calls_of_tr (n := 40) (c := bodyOf Try.f21) (.two .leaf (.two (.two .leaf (.two (.two .leaf .leaf) .leaf)) (.two (.two .leaf (.one (.loop [7] (.two (.two .leaf (.two .leaf .leaf)) (.two (.one (.two (.draw [(true, 0), (true, 1), (true, 2), (true, 3), (true, 4), (true, 5), (true, 6), (true, 7), (true, 8), (true, 9), (true, 10), (true, 11), (true, 12), (true, 13), (true, 14), (true, 15), (true, 16), (true, 17), (true, 18), (true, 19), (true, 20)]) (.two (.two .leaf .leaf) .leaf))) .leaf))))) (.two .leaf .leaf)))) Try.func21 (by kernel_rfl) Try.ntmps21 (by kernel_rfl) (by kernel_rfl) [a0, a1, a2] (by kernel_rfl) (of_eq_ (by kernel_rfl) h)

/-- shelfmark/pack.GetNum -/
def S50 (a0 a1 : Value) (R : Value → World → Prop) (w : World) : Prop :=
  LiftP Try.prog (binS Go.BinOp.lss 3 (Go.Operand.tmp 9) (Go.Operand.const (Go.Value.int Go.IntKind.i64 0)) a1 (Go.Value.int Go.IntKind.i64 0)) (fun v10 w =>
  GuardP v10 false (fun K w => K a1 w) (fun v12 w =>
  GuardP v10 false (fun K w => K a0 w) (fun v13 w =>
  GuardP v10 false (fun K w => NextP Try.prog (builtin Go.Builtin.len #[30] 3 #[false] #[v13]) K w) (fun v14 w =>
  GuardP v10 false (fun K w => LiftP Try.prog (binS Go.BinOp.gtr 3 (Go.Operand.tmp 12) (Go.Operand.tmp 14) v12 v14) K w) (fun v15 w =>
  PickP v10 (Go.Value.bool true) v15 (fun v16 w =>
  CondP v16 (fun w =>
    R (.tuple #[(Go.Value.int Go.IntKind.i64 0), (Go.Value.int Go.IntKind.i64 0), (Go.Value.int Go.IntKind.i64 1)]) w) (fun w =>
    LiftP Try.prog (Instr.sliceAt 30 a0 (some a1) none none) (fun v19 w =>
  NextP Try.prog (builtin Go.Builtin.len #[30] 3 #[false] #[v19]) (fun v20 w =>
  LoopP (fun J vs w =>   -- [4, 21]
    LiftP Try.prog (binS Go.BinOp.lss 3 (Go.Operand.tmp 21) (Go.Operand.tmp 20) (vs.tail.headD undef) v20) (fun v22 w =>
    CondP v22 (fun w =>
      LiftP Try.prog (Instr.indexAt 30 v19 (vs.tail.headD undef)) (fun v24 w =>
    LiftP Try.prog (Instr.loadAt 5 v24) (fun v25 w =>
    LiftP Try.prog (binS Go.BinOp.and 5 (Go.Operand.tmp 27) (Go.Operand.const (Go.Value.int Go.IntKind.u8 127)) v25 (Go.Value.int Go.IntKind.u8 127)) (fun v28 w =>
    LiftP Try.prog (convert 5 3 v28) (fun v29 w =>
    LiftP Try.prog (binS Go.BinOp.mul 3 (Go.Operand.const (Go.Value.int Go.IntKind.i64 7)) (Go.Operand.tmp 30) (Go.Value.int Go.IntKind.i64 7) (vs.tail.headD undef)) (fun v31 w =>
    LiftP Try.prog (binS Go.BinOp.shl 3 (Go.Operand.tmp 29) (Go.Operand.tmp 31) v29 v31) (fun v32 w =>
    LiftP Try.prog (binS Go.BinOp.or 3 (Go.Operand.tmp 26) (Go.Operand.tmp 32) (vs.headD undef) v32) (fun v33 w =>
    JoinP (fun J_1 w =>
      LiftP Try.prog (binS Go.BinOp.gtr 5 (Go.Operand.tmp 35) (Go.Operand.const (Go.Value.int Go.IntKind.u8 127)) v25 (Go.Value.int Go.IntKind.u8 127)) (fun v36 w =>
      GuardP v36 true (fun K w => K (vs.tail.headD undef) w) (fun v38 w =>
      GuardP v36 true (fun K w => LiftP Try.prog (binS Go.BinOp.eql 3 (Go.Operand.tmp 38) (Go.Operand.const (Go.Value.int Go.IntKind.i64 8)) v38 (Go.Value.int Go.IntKind.i64 8)) K w) (fun v39 w =>
      PickP v36 v39 (Go.Value.bool false) (fun v40 w =>
      CondP v40 (fun w =>
        J_1 [v40] w) (fun w =>
        LiftP Try.prog (binS Go.BinOp.eql 5 (Go.Operand.tmp 41) (Go.Operand.const (Go.Value.int Go.IntKind.u8 0)) v25 (Go.Value.int Go.IntKind.u8 0)) (fun v42 w =>
        GuardP v42 true (fun K w => K (vs.tail.headD undef) w) (fun v44 w =>
        GuardP v42 true (fun K w => LiftP Try.prog (binS Go.BinOp.gtr 3 (Go.Operand.tmp 44) (Go.Operand.const (Go.Value.int Go.IntKind.i64 0)) v44 (Go.Value.int Go.IntKind.i64 0)) K w) (fun v45 w =>
        PickP v42 v45 (Go.Value.bool false) (fun v46 w =>
        J_1 [v46] w) w) w) w) w) w) w) w) w) w) (fun vs_1 w =>   -- [34]
    CondP (vs_1.headD undef) (fun w =>
      R (.tuple #[(Go.Value.int Go.IntKind.i64 0), (Go.Value.int Go.IntKind.i64 0), (Go.Value.int Go.IntKind.i64 3)]) w) (fun w =>
      LiftP Try.prog (binS Go.BinOp.lss 5 (Go.Operand.tmp 48) (Go.Operand.const (Go.Value.int Go.IntKind.u8 128)) v25 (Go.Value.int Go.IntKind.u8 128)) (fun v49 w =>
      CondP v49 (fun w =>
        LiftP Try.prog (binS Go.BinOp.add 3 (Go.Operand.tmp 51) (Go.Operand.tmp 52) a1 (vs.tail.headD undef)) (fun v53 w =>
        LiftP Try.prog (binS Go.BinOp.add 3 (Go.Operand.tmp 53) (Go.Operand.const (Go.Value.int Go.IntKind.i64 1)) v53 (Go.Value.int Go.IntKind.i64 1)) (fun v54 w =>
        R (.tuple #[v33, v54, (Go.Value.int Go.IntKind.i64 0)]) w) w) w) (fun w =>
        LiftP Try.prog (binS Go.BinOp.add 3 (Go.Operand.tmp 21) (Go.Operand.const (Go.Value.int Go.IntKind.i64 1)) (vs.tail.headD undef) (Go.Value.int Go.IntKind.i64 1)) (fun v55 w =>
    J [v33, v55] w) w) w) w) w) w) w) w) w) w) w) w) w) (fun w =>
      R (.tuple #[(Go.Value.int Go.IntKind.i64 0), (Go.Value.int Go.IntKind.i64 0), (Go.Value.int Go.IntKind.i64 2)]) w) w) w) [(Go.Value.int Go.IntKind.i64 0), (Go.Value.int Go.IntKind.i64 0)] w) w) w) w) w) w) w) w) w) w
theorem S50.calls (a0 a1 : Value) (R : Value → World → Prop) (w : World) (h : S50 a0 a1 R w) : Calls Try.prog 50 #[a0, a1] w fun e w' => ∃ v, e = .returned v ∧ R v w' :=
  calls_of_tr (n := 56) (c := bodyOf Try.f50) (.two .leaf (.two (.two .leaf (.two (.two .leaf .leaf) .leaf)) (.two (.two .leaf (.one (.loop [4, 21] (.two .leaf (.two (.two .leaf .leaf) (.two (.one (.two .leaf (.two .leaf (.one (.join [34] (.two .leaf (.two .leaf .leaf)) (.two (.two .leaf .leaf) (.two .leaf (.two (.two .leaf .leaf) .leaf)))))))) .leaf)))))) (.two .leaf .leaf)))) Try.func50 (by kernel_rfl) Try.ntmps50 (by kernel_rfl) (by kernel_rfl) [a0, a1] (by kernel_rfl) (of_eq_ (by kernel_rfl) h)

/-- shelfmark/pack.GetTexts -/
def S51 (a0 a1 a2 a3 : Value) (R : Value → World → Prop) (w : World) : Prop :=
  CallP Try.prog 50 #[a0, a1] (fun v18 w =>
  LiftP Try.prog (Instr.extract v18 0) (fun v19 w =>
  LiftP Try.prog (Instr.extract v18 1) (fun v20 w =>
  LiftP Try.prog (Instr.extract v18 2) (fun v21 w =>
  JoinP (fun J w =>
    LiftP Try.prog (binS Go.BinOp.eql 25 (Go.Operand.tmp 22) (Go.Operand.const (Go.Value.int Go.IntKind.i64 0)) v21 (Go.Value.int Go.IntKind.i64 0)) (fun v23 w =>
    GuardP v23 true (fun K w => K v19 w) (fun v25 w =>
    GuardP v23 true (fun K w => K a2 w) (fun v26 w =>
    GuardP v23 true (fun K w => LiftP Try.prog (binS Go.BinOp.gtr 3 (Go.Operand.tmp 25) (Go.Operand.tmp 26) v25 v26) K w) (fun v27 w =>
    PickP v23 v27 (Go.Value.bool false) (fun v28 w =>
    CondP v28 (fun w =>
      J [(Go.Value.int Go.IntKind.i64 4)] w) (fun w =>
      J [v21] w) w) w) w) w) w) w) (fun vs w =>   -- [10]
  LiftP Try.prog (binS Go.BinOp.neq 25 (Go.Operand.tmp 29) (Go.Operand.const (Go.Value.int Go.IntKind.i64 0)) (vs.headD undef) (Go.Value.int Go.IntKind.i64 0)) (fun v30 w =>
  CondP v30 (fun w =>
    R (.tuple #[(Go.Value.slice none 0 0), (Go.Value.int Go.IntKind.i64 0), (vs.headD undef)]) w) (fun w =>
    LoopP (fun J_1 vs_1 w =>   -- [1, 8, 33]
    LiftP Try.prog (binS Go.BinOp.lss 3 (Go.Operand.tmp 33) (Go.Operand.tmp 32) (vs_1.tail.tail.headD undef) v19) (fun v34 w =>
    CondP v34 (fun w =>
      CallP Try.prog 69 #[a0, (vs_1.headD undef), a3] (fun v39 w =>
    LiftP Try.prog (Instr.extract v39 0) (fun v40 w =>
    LiftP Try.prog (Instr.extract v39 1) (fun v41 w =>
    LiftP Try.prog (Instr.extract v39 2) (fun v42 w =>
    LiftP Try.prog (binS Go.BinOp.neq 25 (Go.Operand.tmp 43) (Go.Operand.const (Go.Value.int Go.IntKind.i64 0)) v42 (Go.Value.int Go.IntKind.i64 0)) (fun v44 w =>
    CondP v44 (fun w =>
      R (.tuple #[(Go.Value.slice none 0 0), (Go.Value.int Go.IntKind.i64 0), v42]) w) (fun w =>
      LiftP Try.prog (Instr.buildSlice 37 1 #[(0, v40)]) (fun v48 w =>
    NextP Try.prog (builtin Go.Builtin.append #[37, 37] 37 #[false, false] #[(vs_1.tail.headD undef), v48]) (fun v49 w =>
    LiftP Try.prog (binS Go.BinOp.add 3 (Go.Operand.tmp 33) (Go.Operand.const (Go.Value.int Go.IntKind.i64 1)) (vs_1.tail.tail.headD undef) (Go.Value.int Go.IntKind.i64 1)) (fun v51 w =>
    J_1 [v41, v49, v51] w) w) w) w) w) w) w) w) w) w) (fun w =>
      R (.tuple #[(vs_1.tail.headD undef), (vs_1.headD undef), (Go.Value.int Go.IntKind.i64 0)]) w) w) w) [v20, (Go.Value.slice none 0 0), (Go.Value.int Go.IntKind.i64 0)] w) w) w) w) w) w) w) w
theorem S51.calls (a0 a1 a2 a3 : Value) (R : Value → World → Prop) (w : World) (h : S51 a0 a1 a2 a3 R w) : Calls Try.prog 51 #[a0, a1, a2, a3] w fun e w' => ∃ v, e = .returned v ∧ R v w' :=
  calls_of_tr (n := 54) (c := bodyOf Try.f51) (.two .leaf (.two .leaf (.join [10] (.two .leaf (.two .leaf .leaf)) (.two (.two .leaf (.two (.two .leaf .leaf) .leaf)) (.two (.two .leaf (.one (.loop [1, 8, 33] (.two .leaf (.two (.two .leaf .leaf) (.two (.one (.two .leaf (.two (.two .leaf (.two (.two .leaf .leaf) .leaf)) .leaf))) .leaf)))))) (.two .leaf .leaf)))))) Try.func51 (by kernel_rfl) Try.ntmps51 (by kernel_rfl) (by kernel_rfl) [a0, a1, a2, a3] (by kernel_rfl) (of_eq_ (by kernel_rfl) h)

/-- shelfmark/shelfmarkref01.GetNum -/
def S52 (a0 a1 : Value) (R : Value → World → Prop) (w : World) : Prop :=
  LiftP Try.prog (Instr.alloc 109 true (.tuple #[])) (fun v4 w =>
  LiftP Try.prog (binS Go.BinOp.lss 3 (Go.Operand.tmp 9) (Go.Operand.const (Go.Value.int Go.IntKind.i64 0)) a1 (Go.Value.int Go.IntKind.i64 0)) (fun v10 w =>
  GuardP v10 false (fun K w => K a1 w) (fun v12 w =>
  GuardP v10 false (fun K w => K a0 w) (fun v13 w =>
  GuardP v10 false (fun K w => NextP Try.prog (builtin Go.Builtin.len #[30] 3 #[false] #[v13]) K w) (fun v14 w =>
  GuardP v10 false (fun K w => LiftP Try.prog (binS Go.BinOp.gtr 3 (Go.Operand.tmp 12) (Go.Operand.tmp 14) v12 v14) K w) (fun v15 w =>
  PickP v10 (Go.Value.bool true) v15 (fun v16 w =>
  CondP v16 (fun w =>
    LiftP Try.prog (Instr.build 109 #[(4, (Go.Value.int Go.IntKind.i64 1))]) (fun v17 w =>
    LiftU Try.prog (Instr.storeAt 109 v4 v17) (fun v_ w =>
    RetC Try.prog v4 109 (fun x => R x w) w) w) w) (fun w =>
    LoopP (fun J vs w =>   -- [1, 5, 6, 7]
    LiftP Try.prog (binS Go.BinOp.lss 3 (Go.Operand.tmp 18) (Go.Operand.const (Go.Value.int Go.IntKind.i64 9)) (vs.tail.tail.tail.headD undef) (Go.Value.int Go.IntKind.i64 9)) (fun v19 w =>
    CondP v19 (fun w =>
      NextP Try.prog (builtin Go.Builtin.len #[30] 3 #[false] #[a0]) (fun v24 w =>
    LiftP Try.prog (binS Go.BinOp.geq 3 (Go.Operand.tmp 22) (Go.Operand.tmp 24) (vs.headD undef) v24) (fun v25 w =>
    CondP v25 (fun w =>
      LiftP Try.prog (Instr.build 109 #[(4, (Go.Value.int Go.IntKind.i64 2))]) (fun v26 w =>
      LiftU Try.prog (Instr.storeAt 109 v4 v26) (fun v__1 w =>
      RetC Try.prog v4 109 (fun x_1 => R x_1 w) w) w) w) (fun w =>
      LiftP Try.prog (Instr.indexAt 30 a0 (vs.headD undef)) (fun v29 w =>
    LiftP Try.prog (Instr.loadAt 5 v29) (fun v30 w =>
    LiftP Try.prog (convert 5 3 v30) (fun v31 w =>
    LiftP Try.prog (binS Go.BinOp.add 3 (Go.Operand.tmp 32) (Go.Operand.const (Go.Value.int Go.IntKind.i64 1)) (vs.headD undef) (Go.Value.int Go.IntKind.i64 1)) (fun v33 w =>
    LiftP Try.prog (binS Go.BinOp.geq 3 (Go.Operand.tmp 34) (Go.Operand.const (Go.Value.int Go.IntKind.i64 128)) v31 (Go.Value.int Go.IntKind.i64 128)) (fun v35 w =>
    GuardP v35 true (fun K w => K (vs.tail.tail.tail.headD undef) w) (fun v37 w =>
    GuardP v35 true (fun K w => LiftP Try.prog (binS Go.BinOp.eql 3 (Go.Operand.tmp 37) (Go.Operand.const (Go.Value.int Go.IntKind.i64 8)) v37 (Go.Value.int Go.IntKind.i64 8)) K w) (fun v38 w =>
    PickP v35 v38 (Go.Value.bool false) (fun v39 w =>
    GuardP v39 false (fun K w => K v31 w) (fun v41 w =>
    GuardP v39 false (fun K w => LiftP Try.prog (binS Go.BinOp.eql 3 (Go.Operand.tmp 41) (Go.Operand.const (Go.Value.int Go.IntKind.i64 0)) v41 (Go.Value.int Go.IntKind.i64 0)) K w) (fun v42 w =>
    GuardP v39 false (fun K w => K v42 w) (fun v43 w =>
    GuardP v43 true (fun K w => K (vs.tail.tail.tail.headD undef) w) (fun v44 w =>
    GuardP v43 true (fun K w => LiftP Try.prog (binS Go.BinOp.gtr 3 (Go.Operand.tmp 44) (Go.Operand.const (Go.Value.int Go.IntKind.i64 0)) v44 (Go.Value.int Go.IntKind.i64 0)) K w) (fun v45 w =>
    GuardP v39 false (fun K w => PickP v43 v45 (Go.Value.bool false) K w) (fun v46 w =>
    PickP v39 (Go.Value.bool true) v46 (fun v47 w =>
    CondP v47 (fun w =>
      LiftP Try.prog (Instr.build 109 #[(4, (Go.Value.int Go.IntKind.i64 3))]) (fun v48 w =>
      LiftU Try.prog (Instr.storeAt 109 v4 v48) (fun v__2 w =>
      RetC Try.prog v4 109 (fun x_2 => R x_2 w) w) w) w) (fun w =>
      LiftP Try.prog (binS Go.BinOp.rem 3 (Go.Operand.tmp 50) (Go.Operand.const (Go.Value.int Go.IntKind.i64 128)) v31 (Go.Value.int Go.IntKind.i64 128)) (fun v51 w =>
    LiftP Try.prog (binS Go.BinOp.mul 3 (Go.Operand.tmp 51) (Go.Operand.tmp 52) v51 (vs.tail.tail.headD undef)) (fun v53 w =>
    LiftP Try.prog (binS Go.BinOp.add 3 (Go.Operand.tmp 49) (Go.Operand.tmp 53) (vs.tail.headD undef) v53) (fun v54 w =>
    LiftP Try.prog (binS Go.BinOp.lss 3 (Go.Operand.tmp 55) (Go.Operand.const (Go.Value.int Go.IntKind.i64 128)) v31 (Go.Value.int Go.IntKind.i64 128)) (fun v56 w =>
    CondP v56 (fun w =>
      LiftP Try.prog (Instr.build 109 #[(0, v54), (3, v33)]) (fun v59 w =>
      LiftU Try.prog (Instr.storeAt 109 v4 v59) (fun v__3 w =>
      RetC Try.prog v4 109 (fun x_3 => R x_3 w) w) w) w) (fun w =>
      LiftP Try.prog (binS Go.BinOp.mul 3 (Go.Operand.tmp 60) (Go.Operand.const (Go.Value.int Go.IntKind.i64 128)) (vs.tail.tail.headD undef) (Go.Value.int Go.IntKind.i64 128)) (fun v61 w =>
    LiftP Try.prog (binS Go.BinOp.add 3 (Go.Operand.tmp 20) (Go.Operand.const (Go.Value.int Go.IntKind.i64 1)) (vs.tail.tail.tail.headD undef) (Go.Value.int Go.IntKind.i64 1)) (fun v21 w =>
    J [v33, v54, v61, v21] w) w) w) w) w) w) w) w) w) w) w) w) w) w) w) w) w) w) w) w) w) w) w) w) w) w) w) (fun w =>
      LiftP Try.prog (Instr.build 109 #[(4, (Go.Value.int Go.IntKind.i64 3))]) (fun v62 w =>
  LiftU Try.prog (Instr.storeAt 109 v4 v62) (fun v__4 w =>
  RetC Try.prog v4 109 (fun x_4 => R x_4 w) w) w) w) w) w) [a1, (Go.Value.int Go.IntKind.i64 0), (Go.Value.int Go.IntKind.i64 1), (Go.Value.int Go.IntKind.i64 0)] w) w) w) w) w) w) w) w) w
theorem S52.calls (a0 a1 : Value) (R : Value → World → Prop) (w : World) (h : S52 a0 a1 R w) : Calls Try.prog 52 #[a0, a1] w fun e w' => ∃ v, e = .returned v ∧ R v w' :=
  calls_of_tr (n := 63) (c := bodyOf Try.f52) (.two .leaf (.two (.two .leaf (.two (.two .leaf .leaf) .leaf)) (.two .leaf (.two .leaf (.two (.two .leaf (.one (.loop [1, 5, 6, 7] (.two (.two .leaf (.two .leaf .leaf)) (.two (.one (.two (.two .leaf (.two (.two .leaf .leaf) .leaf)) (.two .leaf (.two .leaf (.two (.two .leaf (.two (.two .leaf .leaf) .leaf)) (.two .leaf (.two (.two .leaf (.two (.two .leaf .leaf) .leaf)) .leaf))))))) .leaf))))) (.two .leaf .leaf)))))) Try.func52 (by kernel_rfl) Try.ntmps52 (by kernel_rfl) (by kernel_rfl) [a0, a1] (by kernel_rfl) (of_eq_ (by kernel_rfl) h)

/-- shelfmark/shelfmarkref01.GetTexts -/
def S53 (a0 a1 a2 a3 : Value) (R : Value → World → Prop) (w : World) : Prop :=
  LiftP Try.prog (Instr.alloc 109 true (.tuple #[])) (fun v8 w =>
  CallP Try.prog 52 #[a0, a1] (fun v15 w =>
  LiftP Try.prog (Instr.alloc 109 true (.tuple #[])) (fun v9 w =>
  LiftU Try.prog (Instr.storeAt 109 v9 v15) (fun v_ w =>
  LiftP Try.prog (Instr.fieldAt 109 v9 4) (fun v16 w =>
  LiftP Try.prog (Instr.loadAt 25 v16) (fun v17 w =>
  LiftP Try.prog (binS Go.BinOp.neq 25 (Go.Operand.tmp 17) (Go.Operand.const (Go.Value.int Go.IntKind.i64 0)) v17 (Go.Value.int Go.IntKind.i64 0)) (fun v18 w =>
  CondP v18 (fun w =>
    LiftP Try.prog (Instr.loadAt 109 v9) (fun v19 w =>
    LiftU Try.prog (Instr.storeAt 109 v8 v19) (fun v__1 w =>
    RetC Try.prog v8 109 (fun x => R x w) w) w) w) (fun w =>
    LiftP Try.prog (Instr.fieldAt 109 v9 0) (fun v20 w =>
  LiftP Try.prog (Instr.loadAt 3 v20) (fun v21 w =>
  LiftP Try.prog (binS Go.BinOp.gtr 3 (Go.Operand.tmp 21) (Go.Operand.tmp 22) v21 a2) (fun v23 w =>
  CondP v23 (fun w =>
    LiftP Try.prog (Instr.build 109 #[(4, (Go.Value.int Go.IntKind.i64 4))]) (fun v24 w =>
    LiftU Try.prog (Instr.storeAt 109 v8 v24) (fun v__2 w =>
    RetC Try.prog v8 109 (fun x_1 => R x_1 w) w) w) w) (fun w =>
    LiftP Try.prog (Instr.fieldAt 109 v9 3) (fun v25 w =>
  LiftP Try.prog (Instr.loadAt 3 v25) (fun v26 w =>
  LiftP Try.prog (Instr.build 109 #[(3, v26)]) (fun v27 w =>
  LiftP Try.prog (Instr.alloc 109 true (.tuple #[])) (fun v10 w =>
  LiftU Try.prog (Instr.storeAt 109 v10 v27) (fun v__3 w =>
  LoopP (fun J vs w =>   -- [11]
    LiftP Try.prog (Instr.fieldAt 109 v9 0) (fun v29 w =>
    LiftP Try.prog (Instr.loadAt 3 v29) (fun v30 w =>
    LiftP Try.prog (binS Go.BinOp.lss 3 (Go.Operand.tmp 28) (Go.Operand.tmp 30) (vs.headD undef) v30) (fun v31 w =>
    CondP v31 (fun w =>
      LiftP Try.prog (Instr.fieldAt 109 v10 3) (fun v35 w =>
    LiftP Try.prog (Instr.loadAt 3 v35) (fun v36 w =>
    CallP Try.prog 70 #[a0, v36, a3] (fun v38 w =>
    LiftP Try.prog (Instr.alloc 109 true (.tuple #[])) (fun v12 w =>
    LiftU Try.prog (Instr.storeAt 109 v12 v38) (fun v__4 w =>
    LiftP Try.prog (Instr.fieldAt 109 v12 4) (fun v39 w =>
    LiftP Try.prog (Instr.loadAt 25 v39) (fun v40 w =>
    LiftP Try.prog (binS Go.BinOp.neq 25 (Go.Operand.tmp 40) (Go.Operand.const (Go.Value.int Go.IntKind.i64 0)) v40 (Go.Value.int Go.IntKind.i64 0)) (fun v41 w =>
    CondP v41 (fun w =>
      LiftP Try.prog (Instr.fieldAt 109 v12 4) (fun v42 w =>
      LiftP Try.prog (Instr.loadAt 25 v42) (fun v43 w =>
      LiftP Try.prog (Instr.build 109 #[(4, v43)]) (fun v44 w =>
      LiftU Try.prog (Instr.storeAt 109 v8 v44) (fun v__5 w =>
      RetC Try.prog v8 109 (fun x_2 => R x_2 w) w) w) w) w) w) (fun w =>
      LiftP Try.prog (Instr.fieldAt 109 v10 2) (fun v45 w =>
    LiftP Try.prog (Instr.loadAt 37 v45) (fun v46 w =>
    LiftP Try.prog (Instr.fieldAt 109 v12 1) (fun v47 w =>
    LiftP Try.prog (Instr.loadAt 9 v47) (fun v48 w =>
    LiftP Try.prog (Instr.buildSlice 37 1 #[(0, v48)]) (fun v49 w =>
    NextP Try.prog (builtin Go.Builtin.append #[37, 37] 37 #[false, false] #[v46, v49]) (fun v50 w =>
    LiftP Try.prog (Instr.fieldAt 109 v10 2) (fun v51 w =>
    LiftU Try.prog (Instr.storeAt 37 v51 v50) (fun v__6 w =>
    LiftP Try.prog (Instr.fieldAt 109 v12 3) (fun v52 w =>
    LiftP Try.prog (Instr.loadAt 3 v52) (fun v53 w =>
    LiftP Try.prog (Instr.fieldAt 109 v10 3) (fun v54 w =>
    LiftU Try.prog (Instr.storeAt 3 v54 v53) (fun v__7 w =>
    LiftP Try.prog (binS Go.BinOp.add 3 (Go.Operand.tmp 32) (Go.Operand.const (Go.Value.int Go.IntKind.i64 1)) (vs.headD undef) (Go.Value.int Go.IntKind.i64 1)) (fun v33 w =>
    J [v33] w) w) w) w) w) w) w) w) w) w) w) w) w) w) w) w) w) w) w) w) w) w) w) (fun w =>
      LiftP Try.prog (Instr.loadAt 109 v10) (fun v55 w =>
  LiftU Try.prog (Instr.storeAt 109 v8 v55) (fun v__8 w =>
  RetC Try.prog v8 109 (fun x_3 => R x_3 w) w) w) w) w) w) w) w) [(Go.Value.int Go.IntKind.i64 0)] w) w) w) w) w) w) w) w) w) w) w) w) w) w) w) w) w) w
theorem S53.calls (a0 a1 a2 a3 : Value) (R : Value → World → Prop) (w : World) (h : S53 a0 a1 a2 a3 R w) : Calls Try.prog 53 #[a0, a1, a2, a3] w fun e w' => ∃ v, e = .returned v ∧ R v w' :=
  calls_of_tr (n := 56) (c := bodyOf Try.f53) (.two .leaf (.two .leaf (.two (.two .leaf (.two (.two .leaf .leaf) .leaf)) (.two (.two .leaf (.two (.two .leaf .leaf) .leaf)) (.two .leaf (.two (.two .leaf (.one (.loop [11] (.two (.two .leaf (.two .leaf .leaf)) (.two (.one (.two .leaf (.two (.two .leaf (.two (.two .leaf .leaf) .leaf)) (.two .leaf .leaf)))) .leaf))))) (.two .leaf .leaf))))))) Try.func53 (by kernel_rfl) Try.ntmps53 (by kernel_rfl) (by kernel_rfl) [a0, a1, a2, a3] (by kernel_rfl) (of_eq_ (by kernel_rfl) h)

/-- shelfmark/pack.GetText -/
def S69 (a0 a1 a2 : Value) (R : Value → World → Prop) (w : World) : Prop :=
  CallP Try.prog 50 #[a0, a1] (fun v13 w =>
  LiftP Try.prog (Instr.extract v13 0) (fun v14 w =>
  LiftP Try.prog (Instr.extract v13 1) (fun v15 w =>
  LiftP Try.prog (Instr.extract v13 2) (fun v16 w =>
  LiftP Try.prog (binS Go.BinOp.neq 25 (Go.Operand.tmp 18) (Go.Operand.const (Go.Value.int Go.IntKind.i64 0)) v16 (Go.Value.int Go.IntKind.i64 0)) (fun v19 w =>
  CondP v19 (fun w =>
    R (.tuple #[(Go.Value.string { data := #[] }), (Go.Value.int Go.IntKind.i64 0), v16]) w) (fun w =>
    LiftP Try.prog (binS Go.BinOp.gtr 3 (Go.Operand.tmp 22) (Go.Operand.tmp 23) v14 a2) (fun v24 w =>
    CondP v24 (fun w =>
      R (.tuple #[(Go.Value.string { data := #[] }), (Go.Value.int Go.IntKind.i64 0), (Go.Value.int Go.IntKind.i64 4)]) w) (fun w =>
      NextP Try.prog (builtin Go.Builtin.len #[30] 3 #[false] #[a0]) (fun v28 w =>
      LiftP Try.prog (binS Go.BinOp.sub 3 (Go.Operand.tmp 28) (Go.Operand.tmp 29) v28 v15) (fun v30 w =>
      LiftP Try.prog (binS Go.BinOp.gtr 3 (Go.Operand.tmp 26) (Go.Operand.tmp 30) v14 v30) (fun v31 w =>
      CondP v31 (fun w =>
        R (.tuple #[(Go.Value.string { data := #[] }), (Go.Value.int Go.IntKind.i64 0), (Go.Value.int Go.IntKind.i64 2)]) w) (fun w =>
        LiftP Try.prog (binS Go.BinOp.add 3 (Go.Operand.tmp 34) (Go.Operand.tmp 35) v15 v14) (fun v36 w =>
  LiftP Try.prog (Instr.sliceAt 30 a0 (some v15) (some v36) none) (fun v37 w =>
  LiftP Try.prog (convert 30 9 v37) (fun v38 w =>
  LiftP Try.prog (binS Go.BinOp.add 3 (Go.Operand.tmp 39) (Go.Operand.tmp 40) v15 v14) (fun v41 w =>
  R (.tuple #[v38, v41, (Go.Value.int Go.IntKind.i64 0)]) w) w) w) w) w) w) w) w) w) w) w) w) w) w) w) w) w
theorem S69.calls (a0 a1 a2 : Value) (R : Value → World → Prop) (w : World) (h : S69 a0 a1 a2 R w) : Calls Try.prog 69 #[a0, a1, a2] w fun e w' => ∃ v, e = .returned v ∧ R v w' :=
  calls_of_tr (n := 42) (c := bodyOf Try.f69) (.two .leaf (.two .leaf (.two (.one (.two .leaf (.two (.two .leaf .leaf) (.two .leaf (.two (.two .leaf .leaf) (.two .leaf (.two (.two .leaf .leaf) .leaf))))))) (.two .leaf .leaf)))) Try.func69 (by kernel_rfl) Try.ntmps69 (by kernel_rfl) (by kernel_rfl) [a0, a1, a2] (by kernel_rfl) (of_eq_ (by kernel_rfl) h)

/-- shelfmark/shelfmarkref01.GetText -/
def S70 (a0 a1 a2 : Value) (R : Value → World → Prop) (w : World) : Prop :=
  LiftP Try.prog (Instr.alloc 109 true (.tuple #[])) (fun v6 w =>
  CallP Try.prog 52 #[a0, a1] (fun v10 w =>
  LiftP Try.prog (Instr.alloc 109 true (.tuple #[])) (fun v7 w =>
  LiftU Try.prog (Instr.storeAt 109 v7 v10) (fun v_ w =>
  LiftP Try.prog (Instr.fieldAt 109 v7 4) (fun v11 w =>
  LiftP Try.prog (Instr.loadAt 25 v11) (fun v12 w =>
  LiftP Try.prog (binS Go.BinOp.neq 25 (Go.Operand.tmp 12) (Go.Operand.const (Go.Value.int Go.IntKind.i64 0)) v12 (Go.Value.int Go.IntKind.i64 0)) (fun v13 w =>
  CondP v13 (fun w =>
    LiftP Try.prog (Instr.loadAt 109 v7) (fun v14 w =>
    LiftU Try.prog (Instr.storeAt 109 v6 v14) (fun v__1 w =>
    RetC Try.prog v6 109 (fun x => R x w) w) w) w) (fun w =>
    LiftP Try.prog (Instr.fieldAt 109 v7 0) (fun v15 w =>
  LiftP Try.prog (Instr.loadAt 3 v15) (fun v16 w =>
  LiftP Try.prog (binS Go.BinOp.gtr 3 (Go.Operand.tmp 16) (Go.Operand.tmp 17) v16 a2) (fun v18 w =>
  CondP v18 (fun w =>
    LiftP Try.prog (Instr.build 109 #[(4, (Go.Value.int Go.IntKind.i64 4))]) (fun v19 w =>
    LiftU Try.prog (Instr.storeAt 109 v6 v19) (fun v__2 w =>
    RetC Try.prog v6 109 (fun x_1 => R x_1 w) w) w) w) (fun w =>
    LiftP Try.prog (Instr.fieldAt 109 v7 0) (fun v20 w =>
  LiftP Try.prog (Instr.loadAt 3 v20) (fun v21 w =>
  NextP Try.prog (builtin Go.Builtin.len #[30] 3 #[false] #[a0]) (fun v23 w =>
  LiftP Try.prog (Instr.fieldAt 109 v7 3) (fun v24 w =>
  LiftP Try.prog (Instr.loadAt 3 v24) (fun v25 w =>
  LiftP Try.prog (binS Go.BinOp.sub 3 (Go.Operand.tmp 23) (Go.Operand.tmp 25) v23 v25) (fun v26 w =>
  LiftP Try.prog (binS Go.BinOp.gtr 3 (Go.Operand.tmp 21) (Go.Operand.tmp 26) v21 v26) (fun v27 w =>
  CondP v27 (fun w =>
    LiftP Try.prog (Instr.build 109 #[(4, (Go.Value.int Go.IntKind.i64 2))]) (fun v28 w =>
    LiftU Try.prog (Instr.storeAt 109 v6 v28) (fun v__3 w =>
    RetC Try.prog v6 109 (fun x_2 => R x_2 w) w) w) w) (fun w =>
    DrawP (fun S w =>
  YieldP Try.prog S (Instr.fieldAt 109 v7 3) (fun v30 w =>
  YieldP Try.prog S (Instr.loadAt 3 v30) (fun v31 w =>
  YieldP Try.prog S (Instr.fieldAt 109 v7 3) (fun v32 w =>
  YieldP Try.prog S (Instr.loadAt 3 v32) (fun v33 w =>
  YieldP Try.prog S (Instr.fieldAt 109 v7 0) (fun v34 w =>
  YieldP Try.prog S (Instr.loadAt 3 v34) (fun v35 w =>
  YieldP Try.prog S (binS Go.BinOp.add 3 (Go.Operand.tmp 33) (Go.Operand.tmp 35) v33 v35) (fun v36 w =>
  YieldP Try.prog S (Instr.sliceAt 30 a0 (some v31) (some v36) none) (fun v37 w =>
  YieldP Try.prog S (convert 30 9 v37) (fun v38 w =>
  YieldP Try.prog S (Instr.fieldAt 109 v7 3) (fun v39 w =>
  YieldP Try.prog S (Instr.loadAt 3 v39) (fun v40 w =>
  YieldP Try.prog S (Instr.fieldAt 109 v7 0) (fun v41 w =>
  YieldP Try.prog S (Instr.loadAt 3 v41) (fun v42 w =>
  YieldP Try.prog S (binS Go.BinOp.add 3 (Go.Operand.tmp 40) (Go.Operand.tmp 42) v40 v42) (fun v43 w =>
  ActP S (fun K w => LiftP Try.prog (Instr.build 109 #[(1, v38), (3, v43)]) K w) (fun S v44 w =>
  LiftU Try.prog (Instr.storeAt 109 v6 v44) (fun v__4 w =>
  RetC Try.prog v6 109 (fun x_3 => R x_3 w) w) w) w) w) w) w) w) w) w) w) w) w) w) w) w) w) w) w) w) w) w) w) w) w) w) w) w) w) w) w) w) w) w) w) w) w) w) w
theorem S70.calls (a0 a1 a2 : Value) (R : Value → World → Prop) (w : World) (h : S70 a0 a1 a2 R w) : Calls Try.prog 70 #[a0, a1, a2] w fun e w' => ∃ v, e = .returned v ∧ R v w' :=
  calls_of_tr (n := 45) (c := bodyOf Try.f70) (.two .leaf (.two .leaf (.two (.two .leaf (.two (.two .leaf .leaf) .leaf)) (.two (.two .leaf (.two (.two .leaf .leaf) .leaf)) (.two (.two .leaf (.two (.two .leaf .leaf) .leaf)) (.two (.drawL [(true, 0), (true, 1), (true, 2), (true, 3), (true, 4), (true, 5), (true, 6), (true, 7), (true, 8), (true, 9), (true, 10), (true, 11), (true, 12), (true, 13), (true, 14), (false, 15)] 16) .leaf)))))) Try.func70 (by kernel_rfl) Try.ntmps70 (by kernel_rfl) (by kernel_rfl) [a0, a1, a2] (by kernel_rfl) (of_eq_ (by kernel_rfl) h)

end Go.Proofs.Ythicbfopjakiiaa.E
