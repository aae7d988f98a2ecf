import Derived.Test.YtgaamfdhjpkicaaE4
import Derived.Test.YtgaamfdhjpkicaaProg
import Derived.KernelRfl
namespace Go.Proofs.Ytgaamfdhjpkicaa.E
open Go
set_option maxRecDepth 100000

/-- shelfmark/shelfmarklaw06.FrameWraps -/
def S7 (a0 a1 : Value) (R : Value → World → Prop) (w : World) : Prop :=
  CallP Try.prog 24 #[] (fun v13 w =>
  LiftP Try.prog (Op.unary Go.UnOp.not v13) (fun v14 w =>
  CondP v14 (fun w =>
    R (Go.Value.bool false) w) (fun w =>
    NextP Try.prog (builtin Go.Builtin.len #[23] 3 #[false] #[a0]) (fun v16 w =>
  LiftP Try.prog (binS Go.BinOp.gtr 3 (Go.Operand.tmp 16) (Go.Operand.const (Go.Value.int Go.IntKind.i64 70000)) v16 (Go.Value.int Go.IntKind.i64 70000)) (fun v17 w =>
  GuardP v17 false (fun K w => K a1 w) (fun v19 w =>
  GuardP v17 false (fun K w => NextP Try.prog (builtin Go.Builtin.len #[23] 3 #[false] #[v19]) K w) (fun v20 w =>
  GuardP v17 false (fun K w => LiftP Try.prog (binS Go.BinOp.gtr 3 (Go.Operand.tmp 20) (Go.Operand.const (Go.Value.int Go.IntKind.i64 4000)) v20 (Go.Value.int Go.IntKind.i64 4000)) K w) (fun v21 w =>
  PickP v17 (Go.Value.bool true) v21 (fun v22 w =>
  CondP v22 (fun w =>
    R (Go.Value.bool true) w) (fun w =>
    CallP Try.prog 25 #[a0] (fun v25 w =>
  LiftP Try.prog (Instr.extract v25 0) (fun v26 w =>
  LiftP Try.prog (Instr.extract v25 1) (fun v27 w =>
  CallP Try.prog 26 #[a0] (fun v30 w =>
  LiftP Try.prog (Instr.extract v30 0) (fun v31 w =>
  LiftP Try.prog (Instr.extract v30 1) (fun v32 w =>
  CallP Try.prog 27 #[a1] (fun v35 w =>
  LiftP Try.prog (Instr.extract v35 0) (fun v36 w =>
  LiftP Try.prog (Instr.extract v35 1) (fun v37 w =>
  LiftP Try.prog (Instr.extract v35 2) (fun v38 w =>
  CallP Try.prog 28 #[a1] (fun v40 w =>
  LiftP Try.prog (Instr.alloc 42 true (.tuple #[])) (fun v12 w =>
  LiftU Try.prog (Instr.storeAt 42 v12 v40) (fun v_ w =>
  LiftP Try.prog (convert 23 9 v26) (fun v42 w =>
  LiftP Try.prog (convert 23 9 v31) (fun v44 w =>
  LiftP Try.prog (binS Go.BinOp.eql 9 (Go.Operand.tmp 42) (Go.Operand.tmp 44) v42 v44) (fun v45 w =>
  GuardP v45 true (fun K w => K v27 w) (fun v47 w =>
  GuardP v45 true (fun K w => K v32 w) (fun v48 w =>
  GuardP v45 true (fun K w => LiftP Try.prog (binS Go.BinOp.eql 33 (Go.Operand.tmp 47) (Go.Operand.tmp 48) v47 v48) K w) (fun v49 w =>
  PickP v45 v49 (Go.Value.bool false) (fun v50 w =>
  GuardP v50 true (fun K w => K v36 w) (fun v52 w =>
  GuardP v50 true (fun K w => LiftP Try.prog (convert 23 9 v52) K w) (fun v53 w =>
  GuardP v50 true (fun K w => LiftP Try.prog (Instr.fieldAt 42 v12 0) K w) (fun v54 w =>
  GuardP v50 true (fun K w => LiftP Try.prog (Instr.loadAt 23 v54) K w) (fun v55 w =>
  GuardP v50 true (fun K w => LiftP Try.prog (convert 23 9 v55) K w) (fun v56 w =>
  GuardP v50 true (fun K w => LiftP Try.prog (binS Go.BinOp.eql 9 (Go.Operand.tmp 53) (Go.Operand.tmp 56) v53 v56) K w) (fun v57 w =>
  PickP v50 v57 (Go.Value.bool false) (fun v58 w =>
  GuardP v58 true (fun K w => K v37 w) (fun v60 w =>
  GuardP v58 true (fun K w => LiftP Try.prog (Instr.fieldAt 42 v12 1) K w) (fun v61 w =>
  GuardP v58 true (fun K w => LiftP Try.prog (Instr.loadAt 3 v61) K w) (fun v62 w =>
  GuardP v58 true (fun K w => LiftP Try.prog (binS Go.BinOp.eql 3 (Go.Operand.tmp 60) (Go.Operand.tmp 62) v60 v62) K w) (fun v63 w =>
  PickP v58 v63 (Go.Value.bool false) (fun v64 w =>
  GuardP v64 true (fun K w => K v38 w) (fun v66 w =>
  GuardP v64 true (fun K w => LiftP Try.prog (Instr.fieldAt 42 v12 2) K w) (fun v67 w =>
  GuardP v64 true (fun K w => LiftP Try.prog (Instr.loadAt 33 v67) K w) (fun v68 w =>
  GuardP v64 true (fun K w => LiftP Try.prog (binS Go.BinOp.eql 33 (Go.Operand.tmp 66) (Go.Operand.tmp 68) v66 v68) K w) (fun v69 w =>
  PickP v64 v69 (Go.Value.bool false) (fun v70 w =>
  R v70 w) w) w) w) w) w) w) w) w) w) w) w) w) w) w) w) w) w) w) w) w) w) w) w) w) w) w) w) w) w) w) w) w) w) w) w) w) w) w) w) w) w) w) w) w) w) w) w
theorem S7.calls (a0 a1 : Value) (R : Value → World → Prop) (w : World) (h : S7 a0 a1 R w) : Calls Try.prog 7 #[a0, a1] w fun e w' => ∃ v, e = .returned v ∧ R v w' :=
  calls_of_tr (n := 71) (c := bodyOf Try.f7) (.two .leaf (.two (.two .leaf (.two (.two .leaf .leaf) .leaf)) (.two (.two .leaf (.two (.two .leaf .leaf) .leaf)) (.two .leaf (.two .leaf (.two .leaf (.two .leaf (.two .leaf .leaf)))))))) Try.func7 (by kernel_rfl) Try.ntmps7 (by kernel_rfl) (by kernel_rfl) [a0, a1] (by kernel_rfl) (of_eq_ (by kernel_rfl) h)

/-- shelfmark/shelfmarklaw06.FrameScans -/
def S8 (a0 : Value) (R : Value → World → Prop) (w : World) : Prop :=
  CallP Try.prog 24 #[] (fun v7 w =>
  LiftP Try.prog (Op.unary Go.UnOp.not v7) (fun v8 w =>
  CondP v8 (fun w =>
    R (Go.Value.bool false) w) (fun w =>
    NextP Try.prog (builtin Go.Builtin.len #[23] 3 #[false] #[a0]) (fun v10 w =>
  LiftP Try.prog (binS Go.BinOp.gtr 3 (Go.Operand.tmp 10) (Go.Operand.const (Go.Value.int Go.IntKind.i64 4000)) v10 (Go.Value.int Go.IntKind.i64 4000)) (fun v11 w =>
  CondP v11 (fun w =>
    R (Go.Value.bool true) w) (fun w =>
    CallP Try.prog 29 #[a0] (fun v14 w =>
  LiftP Try.prog (Instr.extract v14 0) (fun v15 w =>
  LiftP Try.prog (Instr.extract v14 1) (fun v16 w =>
  CallP Try.prog 30 #[a0] (fun v19 w =>
  LiftP Try.prog (Instr.extract v19 0) (fun v20 w =>
  LiftP Try.prog (Instr.extract v19 1) (fun v21 w =>
  CallP Try.prog 31 #[v15, v20] (fun v24 w =>
  GuardP v24 true (fun K w => K v16 w) (fun v26 w =>
  GuardP v24 true (fun K w => K v21 w) (fun v27 w =>
  GuardP v24 true (fun K w => LiftP Try.prog (binS Go.BinOp.eql 3 (Go.Operand.tmp 26) (Go.Operand.tmp 27) v26 v27) K w) (fun v28 w =>
  PickP v24 v28 (Go.Value.bool false) (fun v29 w =>
  R v29 w) w) w) w) w) w) w) w) w) w) w) w) w) w) w) w) w) w
theorem S8.calls (a0 : Value) (R : Value → World → Prop) (w : World) (h : S8 a0 R w) : Calls Try.prog 8 #[a0] w fun e w' => ∃ v, e = .returned v ∧ R v w' :=
  calls_of_tr (n := 30) (c := bodyOf Try.f8) (.two .leaf (.two (.two .leaf (.two (.two .leaf .leaf) .leaf)) (.two (.two .leaf (.two (.two .leaf .leaf) .leaf)) (.two .leaf (.two .leaf (.two .leaf .leaf)))))) Try.func8 (by kernel_rfl) Try.ntmps8 (by kernel_rfl) (by kernel_rfl) [a0] (by kernel_rfl) (of_eq_ (by kernel_rfl) h)

/-- shelfmark/shelfmarklaw06.FrameCuts -/
def S9 (a0 a1 : Value) (R : Value → World → Prop) (w : World) : Prop :=
  CallP Try.prog 24 #[] (fun v14 w =>
  LiftP Try.prog (Op.unary Go.UnOp.not v14) (fun v15 w =>
  CondP v15 (fun w =>
    R (Go.Value.bool false) w) (fun w =>
    CallP Try.prog 32 #[a0, (Go.Value.int Go.IntKind.i64 4000)] (fun v17 w =>
  LiftP Try.prog (binS Go.BinOp.gtr 3 (Go.Operand.tmp 17) (Go.Operand.const (Go.Value.int Go.IntKind.i64 4000)) v17 (Go.Value.int Go.IntKind.i64 4000)) (fun v18 w =>
  CondP v18 (fun w =>
    R (Go.Value.bool true) w) (fun w =>
    LoopP (fun J vs w =>   -- [5, 6, 7]
    NextP Try.prog (builtin Go.Builtin.len #[45] 3 #[false] #[a0]) (fun v21 w =>
    LiftP Try.prog (binS Go.BinOp.lss 3 (Go.Operand.tmp 19) (Go.Operand.tmp 21) (vs.tail.tail.headD undef) v21) (fun v22 w =>
    CondP v22 (fun w =>
      LiftP Try.prog (Instr.indexAt 45 a0 (vs.tail.tail.headD undef)) (fun v28 w =>
    LiftP Try.prog (Instr.loadAt 23 v28) (fun v29 w =>
    CallP Try.prog 25 #[v29] (fun v30 w =>
    LiftP Try.prog (Instr.extract v30 0) (fun v31 w =>
    LiftP Try.prog (Instr.extract v30 1) (fun v32 w =>
    LiftP Try.prog (binS Go.BinOp.neq 33 (Go.Operand.tmp 33) (Go.Operand.const (Go.Value.int Go.IntKind.i64 0)) v32 (Go.Value.int Go.IntKind.i64 0)) (fun v34 w =>
    CondP v34 (fun w =>
      R (Go.Value.bool false) w) (fun w =>
      NextP Try.prog (builtin Go.Builtin.append #[23, 23] 23 #[false, false] #[(vs.headD undef), v31]) (fun v37 w =>
    NextP Try.prog (builtin Go.Builtin.len #[23] 3 #[false] #[v37]) (fun v40 w =>
    LiftP Try.prog (Instr.buildSlice 28 1 #[(0, v40)]) (fun v41 w =>
    NextP Try.prog (builtin Go.Builtin.append #[28, 28] 28 #[false, false] #[(vs.tail.headD undef), v41]) (fun v42 w =>
    LiftP Try.prog (binS Go.BinOp.add 3 (Go.Operand.tmp 23) (Go.Operand.const (Go.Value.int Go.IntKind.i64 1)) (vs.tail.tail.headD undef) (Go.Value.int Go.IntKind.i64 1)) (fun v24 w =>
    J [v37, v42, v24] w) w) w) w) w) w) w) w) w) w) w) w) w) (fun w =>
      JoinP (fun J_1 w =>
    LiftP Try.prog (binS Go.BinOp.lss 3 (Go.Operand.tmp 43) (Go.Operand.const (Go.Value.int Go.IntKind.i64 0)) a1 (Go.Value.int Go.IntKind.i64 0)) (fun v44 w =>
    GuardP v44 false (fun K w => K a1 w) (fun v46 w =>
    GuardP v44 false (fun K w => K (vs.headD undef) w) (fun v47 w =>
    GuardP v44 false (fun K w => NextP Try.prog (builtin Go.Builtin.len #[23] 3 #[false] #[v47]) K w) (fun v48 w =>
    GuardP v44 false (fun K w => LiftP Try.prog (binS Go.BinOp.gtr 3 (Go.Operand.tmp 46) (Go.Operand.tmp 48) v46 v48) K w) (fun v49 w =>
    PickP v44 (Go.Value.bool true) v49 (fun v50 w =>
    CondP v50 (fun w =>
      NextP Try.prog (builtin Go.Builtin.len #[23] 3 #[false] #[(vs.headD undef)]) (fun v52 w =>
      J_1 [v52] w) w) (fun w =>
      J_1 [a1] w) w) w) w) w) w) w) w) (fun vs_1 w =>   -- [1]
  LoopP (fun J_2 vs_2 w =>   -- [10, 11]
    NextP Try.prog (builtin Go.Builtin.len #[28] 3 #[false] #[(vs.tail.headD undef)]) (fun v55 w =>
    LiftP Try.prog (binS Go.BinOp.lss 3 (Go.Operand.tmp 53) (Go.Operand.tmp 55) (vs_2.tail.headD undef) v55) (fun v56 w =>
    GuardP v56 true (fun K w => K (vs.tail.headD undef) w) (fun v58 w =>
    GuardP v56 true (fun K w => K (vs_2.tail.headD undef) w) (fun v59 w =>
    GuardP v56 true (fun K w => LiftP Try.prog (Instr.indexAt 28 v58 v59) K w) (fun v60 w =>
    GuardP v56 true (fun K w => LiftP Try.prog (Instr.loadAt 3 v60) K w) (fun v61 w =>
    GuardP v56 true (fun K w => K (vs_1.headD undef) w) (fun v62 w =>
    GuardP v56 true (fun K w => LiftP Try.prog (binS Go.BinOp.leq 3 (Go.Operand.tmp 61) (Go.Operand.tmp 62) v61 v62) K w) (fun v63 w =>
    PickP v56 v63 (Go.Value.bool false) (fun v64 w =>
    CondP v64 (fun w =>
      LiftP Try.prog (binS Go.BinOp.add 3 (Go.Operand.tmp 67) (Go.Operand.const (Go.Value.int Go.IntKind.i64 1)) (vs_2.tail.headD undef) (Go.Value.int Go.IntKind.i64 1)) (fun v68 w =>
    LiftP Try.prog (binS Go.BinOp.add 3 (Go.Operand.tmp 65) (Go.Operand.const (Go.Value.int Go.IntKind.i64 1)) (vs_2.tail.headD undef) (Go.Value.int Go.IntKind.i64 1)) (fun v66 w =>
    J_2 [v68, v66] w) w) w) (fun w =>
      LiftP Try.prog (Instr.sliceAt 23 (vs.headD undef) none (some (vs_1.headD undef)) none) (fun v72 w =>
  CallP Try.prog 29 #[v72] (fun v73 w =>
  LiftP Try.prog (Instr.extract v73 0) (fun v74 w =>
  LiftP Try.prog (Instr.extract v73 1) (fun v75 w =>
  LiftP Try.prog (Instr.sliceAt 45 a0 none (some (vs_2.headD undef)) none) (fun v79 w =>
  CallP Try.prog 31 #[v74, v79] (fun v80 w =>
  GuardP v80 true (fun K w => K (vs_2.headD undef) w) (fun v82 w =>
  GuardP v80 true (fun K w => LiftP Try.prog (binS Go.BinOp.eql 3 (Go.Operand.tmp 82) (Go.Operand.const (Go.Value.int Go.IntKind.i64 0)) v82 (Go.Value.int Go.IntKind.i64 0)) K w) (fun v83 w =>
  GuardP v80 true (fun K w => K v83 w) (fun v84 w =>
  GuardP v84 true (fun K w => K v75 w) (fun v85 w =>
  GuardP v84 true (fun K w => LiftP Try.prog (binS Go.BinOp.eql 3 (Go.Operand.tmp 85) (Go.Operand.const (Go.Value.int Go.IntKind.i64 0)) v85 (Go.Value.int Go.IntKind.i64 0)) K w) (fun v86 w =>
  GuardP v80 true (fun K w => PickP v84 v86 (Go.Value.bool false) K w) (fun v87 w =>
  GuardP v80 true (fun K w => K v87 w) (fun v88 w =>
  GuardP v88 false (fun K w => K (vs_2.headD undef) w) (fun v89 w =>
  GuardP v88 false (fun K w => LiftP Try.prog (binS Go.BinOp.gtr 3 (Go.Operand.tmp 89) (Go.Operand.const (Go.Value.int Go.IntKind.i64 0)) v89 (Go.Value.int Go.IntKind.i64 0)) K w) (fun v90 w =>
  GuardP v88 false (fun K w => K v90 w) (fun v91 w =>
  GuardP v91 true (fun K w => K v75 w) (fun v92 w =>
  GuardP v91 true (fun K w => K (vs.tail.headD undef) w) (fun v93 w =>
  GuardP v91 true (fun K w => K (vs_2.headD undef) w) (fun v94 w =>
  GuardP v91 true (fun K w => LiftP Try.prog (binS Go.BinOp.sub 3 (Go.Operand.tmp 94) (Go.Operand.const (Go.Value.int Go.IntKind.i64 1)) v94 (Go.Value.int Go.IntKind.i64 1)) K w) (fun v95 w =>
  GuardP v91 true (fun K w => LiftP Try.prog (Instr.indexAt 28 v93 v95) K w) (fun v96 w =>
  GuardP v91 true (fun K w => LiftP Try.prog (Instr.loadAt 3 v96) K w) (fun v97 w =>
  GuardP v91 true (fun K w => LiftP Try.prog (binS Go.BinOp.eql 3 (Go.Operand.tmp 92) (Go.Operand.tmp 97) v92 v97) K w) (fun v98 w =>
  GuardP v88 false (fun K w => PickP v91 v98 (Go.Value.bool false) K w) (fun v99 w =>
  GuardP v80 true (fun K w => PickP v88 (Go.Value.bool true) v99 K w) (fun v100 w =>
  PickP v80 v100 (Go.Value.bool false) (fun v101 w =>
  R v101 w) w) w) w) w) w) w) w) w) w) w) w) w) w) w) w) w) w) w) w) w) w) w) w) w) w) w) w) w) w) w) w) w) w) w) w) w) [(Go.Value.int Go.IntKind.i64 0), (Go.Value.int Go.IntKind.i64 0)] w) w) w) w) w) [(Go.Value.slice none 0 0), (Go.Value.slice none 0 0), (Go.Value.int Go.IntKind.i64 0)] w) w) w) w) w) w) w
theorem S9.calls (a0 a1 : Value) (R : Value → World → Prop) (w : World) (h : S9 a0 a1 R w) : Calls Try.prog 9 #[a0, a1] w fun e w' => ∃ v, e = .returned v ∧ R v w' :=
  calls_of_tr (n := 102) (c := bodyOf Try.f9) (.two .leaf (.two (.two .leaf (.two (.two .leaf .leaf) .leaf)) (.two (.two .leaf (.two (.two .leaf .leaf) .leaf)) (.two .leaf (.two .leaf (.two (.two .leaf (.one (.loop [5, 6, 7] (.two (.two .leaf (.two .leaf .leaf)) (.two (.one (.two .leaf (.two (.two .leaf (.two (.two .leaf .leaf) .leaf)) (.two .leaf .leaf)))) .leaf))))) (.join [1] (.two .leaf (.two .leaf .leaf)) (.two .leaf (.two (.two .leaf (.one (.loop [10, 11] (.two (.two .leaf (.two .leaf .leaf)) (.two (.one .leaf) .leaf))))) (.two .leaf (.two .leaf .leaf))))))))))) Try.func9 (by kernel_rfl) Try.ntmps9 (by kernel_rfl) (by kernel_rfl) [a0, a1] (by kernel_rfl) (of_eq_ (by kernel_rfl) h)

/-- shelfmark/shelfmarklaw06.FrameKeeps -/
def S10 (a0 : Value) (R : Value → World → Prop) (w : World) : Prop :=
  CallP Try.prog 24 #[] (fun v16 w =>
  LiftP Try.prog (Op.unary Go.UnOp.not v16) (fun v17 w =>
  CondP v17 (fun w =>
    R (Go.Value.bool false) w) (fun w =>
    CallP Try.prog 32 #[a0, (Go.Value.int Go.IntKind.i64 2000)] (fun v19 w =>
  LiftP Try.prog (binS Go.BinOp.gtr 3 (Go.Operand.tmp 19) (Go.Operand.const (Go.Value.int Go.IntKind.i64 2000)) v19 (Go.Value.int Go.IntKind.i64 2000)) (fun v20 w =>
  CondP v20 (fun w =>
    R (Go.Value.bool true) w) (fun w =>
    LoopP (fun J vs w =>   -- [3, 4]
    NextP Try.prog (builtin Go.Builtin.len #[45] 3 #[false] #[a0]) (fun v23 w =>
    LiftP Try.prog (binS Go.BinOp.lss 3 (Go.Operand.tmp 21) (Go.Operand.tmp 23) (vs.tail.headD undef) v23) (fun v24 w =>
    CondP v24 (fun w =>
      LiftP Try.prog (Instr.buildSlice 23 0 #[]) (fun v27 w =>
    LiftP Try.prog (Instr.indexAt 45 a0 (vs.tail.headD undef)) (fun v30 w =>
    LiftP Try.prog (Instr.loadAt 23 v30) (fun v31 w =>
    NextP Try.prog (builtin Go.Builtin.append #[23, 23] 23 #[false, false] #[v27, v31]) (fun v32 w =>
    LiftP Try.prog (Instr.buildSlice 23 2 #[(0, (Go.Value.int Go.IntKind.u8 1)), (1, (Go.Value.int Go.IntKind.u8 2))]) (fun v33 w =>
    NextP Try.prog (builtin Go.Builtin.append #[23, 23] 23 #[false, false] #[v32, v33]) (fun v34 w =>
    LiftP Try.prog (Instr.indexAt 45 a0 (vs.tail.headD undef)) (fun v39 w =>
    LiftP Try.prog (Instr.loadAt 23 v39) (fun v40 w =>
    NextP Try.prog (builtin Go.Builtin.len #[23] 3 #[false] #[v40]) (fun v41 w =>
    LiftP Try.prog (Instr.sliceAt 23 v34 none (some v41) none) (fun v42 w =>
    CallP Try.prog 25 #[v42] (fun v43 w =>
    LiftP Try.prog (Instr.extract v43 0) (fun v44 w =>
    LiftP Try.prog (Instr.extract v43 1) (fun v45 w =>
    DrawP (fun S w =>
    YieldP Try.prog S (convert 23 9 v34) (fun v47 w =>
    YieldP Try.prog S (Instr.indexAt 45 a0 (vs.tail.headD undef)) (fun v50 w =>
    YieldP Try.prog S (Instr.loadAt 23 v50) (fun v51 w =>
    YieldP Try.prog S (convert 23 9 v51) (fun v52 w =>
    YieldP Try.prog S (binS Go.BinOp.add 9 (Go.Operand.tmp 52) (Go.Operand.const (Go.Value.string { data := #[1, 2] })) v52 (Go.Value.string { data := #[1, 2] })) (fun v53 w =>
    YieldP Try.prog S (binS Go.BinOp.neq 9 (Go.Operand.tmp 47) (Go.Operand.tmp 53) v47 v53) (fun v54 w =>
    CondP v54 (fun w =>
      R (Go.Value.bool false) w) (fun w =>
      LoopP (fun J_1 vs_1 w =>   -- [8]
      NextP Try.prog (builtin Go.Builtin.len #[23] 3 #[false] #[v34]) (fun v57 w =>
      LiftP Try.prog (binS Go.BinOp.lss 3 (Go.Operand.tmp 55) (Go.Operand.tmp 57) (vs_1.headD undef) v57) (fun v58 w =>
      CondP v58 (fun w =>
        LiftP Try.prog (Instr.indexAt 23 v34 (vs_1.headD undef)) (fun v63 w =>
      LiftU Try.prog (Instr.storeAt 5 v63 (Go.Value.int Go.IntKind.u8 9)) (fun v_ w =>
      LiftP Try.prog (binS Go.BinOp.add 3 (Go.Operand.tmp 59) (Go.Operand.const (Go.Value.int Go.IntKind.i64 1)) (vs_1.headD undef) (Go.Value.int Go.IntKind.i64 1)) (fun v60 w =>
      J_1 [v60] w) w) w) w) (fun w =>
        NextP Try.prog (builtin Go.Builtin.append #[23, 23] 23 #[false, false] #[(vs.headD undef), v44]) (fun v66 w =>
    LiftP Try.prog (binS Go.BinOp.add 3 (Go.Operand.tmp 25) (Go.Operand.const (Go.Value.int Go.IntKind.i64 1)) (vs.tail.headD undef) (Go.Value.int Go.IntKind.i64 1)) (fun v26 w =>
    J [v66, v26] w) w) w) w) w) w) [(Go.Value.int Go.IntKind.i64 0)] w) w) w) w) w) w) w) w) w) w) w) w) w) w) w) w) w) w) w) w) w) w) (fun w =>
      LiftP Try.prog (convert 23 9 (vs.headD undef)) (fun v68 w =>
  CallP Try.prog 29 #[(vs.headD undef)] (fun v71 w =>
  LiftP Try.prog (Instr.extract v71 0) (fun v72 w =>
  LiftP Try.prog (Instr.extract v71 1) (fun v73 w =>
  CallP Try.prog 29 #[(vs.headD undef)] (fun v76 w =>
  LiftP Try.prog (Instr.extract v76 0) (fun v77 w =>
  LiftP Try.prog (Instr.extract v76 1) (fun v78 w =>
  LoopP (fun J_2 vs_2 w =>   -- [14]
    NextP Try.prog (builtin Go.Builtin.len #[45] 3 #[false] #[v72]) (fun v81 w =>
    LiftP Try.prog (binS Go.BinOp.lss 3 (Go.Operand.tmp 79) (Go.Operand.tmp 81) (vs_2.headD undef) v81) (fun v82 w =>
    CondP v82 (fun w =>
      LoopP (fun J_3 vs_3 w =>   -- [15]
      LiftP Try.prog (Instr.indexAt 45 v72 (vs_2.headD undef)) (fun v88 w =>
      LiftP Try.prog (Instr.loadAt 23 v88) (fun v89 w =>
      NextP Try.prog (builtin Go.Builtin.len #[23] 3 #[false] #[v89]) (fun v90 w =>
      LiftP Try.prog (binS Go.BinOp.lss 3 (Go.Operand.tmp 85) (Go.Operand.tmp 90) (vs_3.headD undef) v90) (fun v91 w =>
      CondP v91 (fun w =>
        DrawP (fun S w =>
      YieldP Try.prog S (Instr.indexAt 45 v72 (vs_2.headD undef)) (fun v96 w =>
      YieldP Try.prog S (Instr.loadAt 23 v96) (fun v97 w =>
      YieldP Try.prog S (Instr.indexAt 45 v72 (vs_2.headD undef)) (fun v101 w =>
      YieldP Try.prog S (Instr.loadAt 23 v101) (fun v102 w =>
      YieldP Try.prog S (Instr.indexAt 23 v102 (vs_3.headD undef)) (fun v104 w =>
      YieldP Try.prog S (Instr.loadAt 5 v104) (fun v105 w =>
      YieldP Try.prog S (binS Go.BinOp.xor 5 (Go.Operand.tmp 105) (Go.Operand.const (Go.Value.int Go.IntKind.u8 255)) v105 (Go.Value.int Go.IntKind.u8 255)) (fun v106 w =>
      YieldP Try.prog S (Instr.indexAt 23 v97 (vs_3.headD undef)) (fun v107 w =>
      LiftU Try.prog (Instr.storeAt 5 v107 v106) (fun v__1 w =>
      LiftP Try.prog (binS Go.BinOp.add 3 (Go.Operand.tmp 92) (Go.Operand.const (Go.Value.int Go.IntKind.i64 1)) (vs_3.headD undef) (Go.Value.int Go.IntKind.i64 1)) (fun v93 w =>
      J_3 [v93] w) w) w) w) w) w) w) w) w) w) w) w) (fun w =>
        LiftP Try.prog (Instr.indexAt 45 v72 (vs_2.headD undef)) (fun v112 w =>
    LiftP Try.prog (Instr.loadAt 23 v112) (fun v113 w =>
    LiftP Try.prog (Instr.buildSlice 23 1 #[(0, (Go.Value.int Go.IntKind.u8 7))]) (fun v114 w =>
    NextP Try.prog (builtin Go.Builtin.append #[23, 23] 23 #[false, false] #[v113, v114]) (fun v115 w =>
    LiftP Try.prog (Instr.indexAt 45 v72 (vs_2.headD undef)) (fun v116 w =>
    LiftU Try.prog (Instr.storeAt 23 v116 v115) (fun v__2 w =>
    LiftP Try.prog (binS Go.BinOp.add 3 (Go.Operand.tmp 83) (Go.Operand.const (Go.Value.int Go.IntKind.i64 1)) (vs_2.headD undef) (Go.Value.int Go.IntKind.i64 1)) (fun v84 w =>
    J_2 [v84] w) w) w) w) w) w) w) w) w) w) w) w) w) [(Go.Value.int Go.IntKind.i64 0)] w) (fun w =>
      LiftP Try.prog (convert 23 9 (vs.headD undef)) (fun v118 w =>
  LiftP Try.prog (binS Go.BinOp.eql 9 (Go.Operand.tmp 118) (Go.Operand.tmp 119) v118 v68) (fun v120 w =>
  GuardP v120 true (fun K w => K v77 w) (fun v122 w =>
  GuardP v120 true (fun K w => K a0 w) (fun v123 w =>
  GuardP v120 true (fun K w => CallP Try.prog 31 #[v122, v123] K w) (fun v124 w =>
  PickP v120 v124 (Go.Value.bool false) (fun v125 w =>
  R v125 w) w) w) w) w) w) w) w) w) w) [(Go.Value.int Go.IntKind.i64 0)] w) w) w) w) w) w) w) w) w) w) w) [(Go.Value.slice none 0 0), (Go.Value.int Go.IntKind.i64 0)] w) w) w) w) w) w) w
theorem S10.calls (a0 : Value) (R : Value → World → Prop) (w : World) (h : S10 a0 R w) : Calls Try.prog 10 #[a0] w fun e w' => ∃ v, e = .returned v ∧ R v w' :=
  calls_of_tr (n := 126) (c := bodyOf Try.f10) (.two .leaf (.two (.two .leaf (.two (.two .leaf .leaf) .leaf)) (.two (.two .leaf (.two (.two .leaf .leaf) .leaf)) (.two .leaf (.two (.two .leaf (.one (.loop [3, 4] (.two (.two .leaf (.two .leaf .leaf)) (.two (.one (.two .leaf (.two .leaf (.two (.two (.draw [(true, 0), (true, 1), (true, 2), (true, 3), (true, 4), (true, 5), (true, 6), (true, 7), (true, 8)]) (.two (.two .leaf .leaf) .leaf)) (.two (.two .leaf (.one (.loop [8] (.two (.two .leaf (.two .leaf .leaf)) (.two (.one .leaf) .leaf))))) .leaf))))) .leaf))))) (.two .leaf (.two .leaf (.two .leaf (.two (.two .leaf (.one (.loop [14] (.two (.two .leaf (.two .leaf .leaf)) (.two (.one (.two (.two .leaf (.one (.loop [15] (.two (.two .leaf (.two .leaf .leaf)) (.two (.one (.drawL [(true, 0), (true, 1), (true, 2), (true, 3), (true, 4), (true, 5), (true, 6), (true, 7), (true, 8), (true, 9), (true, 10), (true, 11), (true, 12), (true, 13)] 14)) .leaf))))) .leaf)) .leaf))))) (.two .leaf .leaf)))))))))) Try.func10 (by kernel_rfl) Try.ntmps10 (by kernel_rfl) (by kernel_rfl) [a0] (by kernel_rfl) (of_eq_ (by kernel_rfl) h)

/-- shelfmark/shelfmarklaw06.FrameJoins -/
def S11 (a0 a1 a2 : Value) (R : Value → World → Prop) (w : World) : Prop :=
  CallP Try.prog 24 #[] (fun v20 w =>
  LiftP Try.prog (Op.unary Go.UnOp.not v20) (fun v21 w =>
  CondP v21 (fun w =>
    R (Go.Value.bool false) w) (fun w =>
    CallP Try.prog 32 #[a0, (Go.Value.int Go.IntKind.i64 2000)] (fun v23 w =>
  LiftP Try.prog (binS Go.BinOp.gtr 3 (Go.Operand.tmp 23) (Go.Operand.const (Go.Value.int Go.IntKind.i64 2000)) v23 (Go.Value.int Go.IntKind.i64 2000)) (fun v24 w =>
  GuardP v24 false (fun K w => K a1 w) (fun v26 w =>
  GuardP v24 false (fun K w => CallP Try.prog 32 #[v26, (Go.Value.int Go.IntKind.i64 2000)] K w) (fun v27 w =>
  GuardP v24 false (fun K w => LiftP Try.prog (binS Go.BinOp.gtr 3 (Go.Operand.tmp 27) (Go.Operand.const (Go.Value.int Go.IntKind.i64 2000)) v27 (Go.Value.int Go.IntKind.i64 2000)) K w) (fun v28 w =>
  PickP v24 (Go.Value.bool true) v28 (fun v29 w =>
  GuardP v29 false (fun K w => K a2 w) (fun v31 w =>
  GuardP v29 false (fun K w => NextP Try.prog (builtin Go.Builtin.len #[23] 3 #[false] #[v31]) K w) (fun v32 w =>
  GuardP v29 false (fun K w => LiftP Try.prog (binS Go.BinOp.gtr 3 (Go.Operand.tmp 32) (Go.Operand.const (Go.Value.int Go.IntKind.i64 7)) v32 (Go.Value.int Go.IntKind.i64 7)) K w) (fun v33 w =>
  PickP v29 (Go.Value.bool true) v33 (fun v34 w =>
  CondP v34 (fun w =>
    R (Go.Value.bool true) w) (fun w =>
    LoopP (fun J vs w =>   -- [7, 9]
    NextP Try.prog (builtin Go.Builtin.len #[45] 3 #[false] #[a0]) (fun v37 w =>
    LiftP Try.prog (binS Go.BinOp.lss 3 (Go.Operand.tmp 35) (Go.Operand.tmp 37) (vs.tail.headD undef) v37) (fun v38 w =>
    CondP v38 (fun w =>
      LiftP Try.prog (Instr.indexAt 45 a0 (vs.tail.headD undef)) (fun v44 w =>
    LiftP Try.prog (Instr.loadAt 23 v44) (fun v45 w =>
    CallP Try.prog 25 #[v45] (fun v46 w =>
    LiftP Try.prog (Instr.extract v46 0) (fun v47 w =>
    LiftP Try.prog (Instr.extract v46 1) (fun v48 w =>
    NextP Try.prog (builtin Go.Builtin.append #[23, 23] 23 #[false, false] #[(vs.headD undef), v47]) (fun v51 w =>
    LiftP Try.prog (binS Go.BinOp.add 3 (Go.Operand.tmp 39) (Go.Operand.const (Go.Value.int Go.IntKind.i64 1)) (vs.tail.headD undef) (Go.Value.int Go.IntKind.i64 1)) (fun v40 w =>
    J [v51, v40] w) w) w) w) w) w) w) w) (fun w =>
      LoopP (fun J_1 vs_1 w =>   -- [8, 12]
    NextP Try.prog (builtin Go.Builtin.len #[45] 3 #[false] #[a1]) (fun v54 w =>
    LiftP Try.prog (binS Go.BinOp.lss 3 (Go.Operand.tmp 52) (Go.Operand.tmp 54) (vs_1.tail.headD undef) v54) (fun v55 w =>
    CondP v55 (fun w =>
      LiftP Try.prog (Instr.indexAt 45 a1 (vs_1.tail.headD undef)) (fun v61 w =>
    LiftP Try.prog (Instr.loadAt 23 v61) (fun v62 w =>
    CallP Try.prog 25 #[v62] (fun v63 w =>
    LiftP Try.prog (Instr.extract v63 0) (fun v64 w =>
    LiftP Try.prog (Instr.extract v63 1) (fun v65 w =>
    NextP Try.prog (builtin Go.Builtin.append #[23, 23] 23 #[false, false] #[(vs_1.headD undef), v64]) (fun v68 w =>
    LiftP Try.prog (binS Go.BinOp.add 3 (Go.Operand.tmp 56) (Go.Operand.const (Go.Value.int Go.IntKind.i64 1)) (vs_1.tail.headD undef) (Go.Value.int Go.IntKind.i64 1)) (fun v57 w =>
    J_1 [v68, v57] w) w) w) w) w) w) w) w) (fun w =>
      NextP Try.prog (builtin Go.Builtin.append #[45, 45] 45 #[false, false] #[(Go.Value.slice none 0 0), a0]) (fun v71 w =>
  NextP Try.prog (builtin Go.Builtin.append #[45, 45] 45 #[false, false] #[v71, a1]) (fun v73 w =>
  LiftP Try.prog (Instr.buildSlice 23 0 #[]) (fun v75 w =>
  NextP Try.prog (builtin Go.Builtin.append #[23, 23] 23 #[false, false] #[v75, (vs.headD undef)]) (fun v77 w =>
  NextP Try.prog (builtin Go.Builtin.append #[23, 23] 23 #[false, false] #[v77, (vs_1.headD undef)]) (fun v79 w =>
  CallP Try.prog 29 #[v79] (fun v80 w =>
  LiftP Try.prog (Instr.extract v80 0) (fun v81 w =>
  LiftP Try.prog (Instr.extract v80 1) (fun v82 w =>
  LiftP Try.prog (Instr.buildSlice 23 0 #[]) (fun v84 w =>
  NextP Try.prog (builtin Go.Builtin.append #[23, 23] 23 #[false, false] #[v84, (vs.headD undef)]) (fun v86 w =>
  NextP Try.prog (builtin Go.Builtin.append #[23, 23] 23 #[false, false] #[v86, a2]) (fun v88 w =>
  CallP Try.prog 29 #[v88] (fun v89 w =>
  LiftP Try.prog (Instr.extract v89 0) (fun v90 w =>
  LiftP Try.prog (Instr.extract v89 1) (fun v91 w =>
  CallP Try.prog 31 #[v81, v73] (fun v94 w =>
  GuardP v94 true (fun K w => K v82 w) (fun v96 w =>
  GuardP v94 true (fun K w => K (vs.headD undef) w) (fun v97 w =>
  GuardP v94 true (fun K w => NextP Try.prog (builtin Go.Builtin.len #[23] 3 #[false] #[v97]) K w) (fun v98 w =>
  GuardP v94 true (fun K w => K (vs_1.headD undef) w) (fun v99 w =>
  GuardP v94 true (fun K w => NextP Try.prog (builtin Go.Builtin.len #[23] 3 #[false] #[v99]) K w) (fun v100 w =>
  GuardP v94 true (fun K w => LiftP Try.prog (binS Go.BinOp.add 3 (Go.Operand.tmp 98) (Go.Operand.tmp 100) v98 v100) K w) (fun v101 w =>
  GuardP v94 true (fun K w => LiftP Try.prog (binS Go.BinOp.eql 3 (Go.Operand.tmp 96) (Go.Operand.tmp 101) v96 v101) K w) (fun v102 w =>
  PickP v94 v102 (Go.Value.bool false) (fun v103 w =>
  GuardP v103 true (fun K w => K v90 w) (fun v105 w =>
  GuardP v103 true (fun K w => K a0 w) (fun v106 w =>
  GuardP v103 true (fun K w => CallP Try.prog 31 #[v105, v106] K w) (fun v107 w =>
  PickP v103 v107 (Go.Value.bool false) (fun v108 w =>
  GuardP v108 true (fun K w => K v91 w) (fun v110 w =>
  GuardP v108 true (fun K w => K (vs.headD undef) w) (fun v111 w =>
  GuardP v108 true (fun K w => NextP Try.prog (builtin Go.Builtin.len #[23] 3 #[false] #[v111]) K w) (fun v112 w =>
  GuardP v108 true (fun K w => LiftP Try.prog (binS Go.BinOp.eql 3 (Go.Operand.tmp 110) (Go.Operand.tmp 112) v110 v112) K w) (fun v113 w =>
  PickP v108 v113 (Go.Value.bool false) (fun v114 w =>
  R v114 w) w) w) w) w) w) w) w) w) w) w) w) w) w) w) w) w) w) w) w) w) w) w) w) w) w) w) w) w) w) w) w) w) w) w) w) [(Go.Value.slice none 0 0), (Go.Value.int Go.IntKind.i64 0)] w) w) w) w) [(Go.Value.slice none 0 0), (Go.Value.int Go.IntKind.i64 0)] w) w) w) w) w) w) w) w) w) w) w) w) w) w) w
theorem S11.calls (a0 a1 a2 : Value) (R : Value → World → Prop) (w : World) (h : S11 a0 a1 a2 R w) : Calls Try.prog 11 #[a0, a1, a2] w fun e w' => ∃ v, e = .returned v ∧ R v w' :=
  calls_of_tr (n := 115) (c := bodyOf Try.f11) (.two .leaf (.two (.two .leaf (.two (.two .leaf .leaf) .leaf)) (.two (.two .leaf (.two (.two .leaf .leaf) .leaf)) (.two .leaf (.two (.two .leaf (.one (.loop [7, 9] (.two (.two .leaf (.two .leaf .leaf)) (.two (.one (.two .leaf .leaf)) .leaf))))) (.two (.two .leaf (.one (.loop [8, 12] (.two (.two .leaf (.two .leaf .leaf)) (.two (.one (.two .leaf .leaf)) .leaf))))) (.two .leaf (.two .leaf (.two .leaf (.two .leaf (.two .leaf .leaf))))))))))) Try.func11 (by kernel_rfl) Try.ntmps11 (by kernel_rfl) (by kernel_rfl) [a0, a1, a2] (by kernel_rfl) (of_eq_ (by kernel_rfl) h)

/-- shelfmark/shelfmarklaw06.awake -/
def S24 (R : Value → World → Prop) (w : World) : Prop :=
  LiftP Try.prog (Instr.buildSlice 23 1 #[(0, (Go.Value.int Go.IntKind.u8 97))]) (fun v7 w =>
  LiftP Try.prog (convert 23 23 v7) (fun v8 w =>
  CallP Try.prog 25 #[v8] (fun v9 w =>
  LiftP Try.prog (Instr.extract v9 0) (fun v10 w =>
  LiftP Try.prog (Instr.extract v9 1) (fun v11 w =>
  LiftP Try.prog (Instr.buildSlice 23 0 #[]) (fun v13 w =>
  NextP Try.prog (builtin Go.Builtin.append #[23, 9] 23 #[false, true] #[v13, (Go.Value.string { data := #[0, 0, 0, 1, 229, 140, 151, 146, 97, 120] })]) (fun v14 w =>
  CallP Try.prog 27 #[v14] (fun v15 w =>
  LiftP Try.prog (Instr.extract v15 0) (fun v16 w =>
  LiftP Try.prog (Instr.extract v15 1) (fun v17 w =>
  LiftP Try.prog (Instr.extract v15 2) (fun v18 w =>
  LiftP Try.prog (binS Go.BinOp.eql 33 (Go.Operand.tmp 19) (Go.Operand.const (Go.Value.int Go.IntKind.i64 0)) v11 (Go.Value.int Go.IntKind.i64 0)) (fun v20 w =>
  GuardP v20 true (fun K w => K v10 w) (fun v22 w =>
  GuardP v20 true (fun K w => LiftP Try.prog (convert 23 9 v22) K w) (fun v23 w =>
  GuardP v20 true (fun K w => LiftP Try.prog (binS Go.BinOp.eql 9 (Go.Operand.tmp 23) (Go.Operand.const (Go.Value.string { data := #[0, 0, 0, 1, 229, 140, 151, 146, 97] })) v23 (Go.Value.string { data := #[0, 0, 0, 1, 229, 140, 151, 146, 97] })) K w) (fun v24 w =>
  PickP v20 v24 (Go.Value.bool false) (fun v25 w =>
  GuardP v25 true (fun K w => K v16 w) (fun v27 w =>
  GuardP v25 true (fun K w => LiftP Try.prog (convert 23 9 v27) K w) (fun v28 w =>
  GuardP v25 true (fun K w => LiftP Try.prog (binS Go.BinOp.eql 9 (Go.Operand.tmp 28) (Go.Operand.const (Go.Value.string { data := #[97] })) v28 (Go.Value.string { data := #[97] })) K w) (fun v29 w =>
  PickP v25 v29 (Go.Value.bool false) (fun v30 w =>
  GuardP v30 true (fun K w => K v17 w) (fun v32 w =>
  GuardP v30 true (fun K w => LiftP Try.prog (binS Go.BinOp.eql 3 (Go.Operand.tmp 32) (Go.Operand.const (Go.Value.int Go.IntKind.i64 9)) v32 (Go.Value.int Go.IntKind.i64 9)) K w) (fun v33 w =>
  PickP v30 v33 (Go.Value.bool false) (fun v34 w =>
  GuardP v34 true (fun K w => K v18 w) (fun v36 w =>
  GuardP v34 true (fun K w => LiftP Try.prog (binS Go.BinOp.eql 33 (Go.Operand.tmp 36) (Go.Operand.const (Go.Value.int Go.IntKind.i64 0)) v36 (Go.Value.int Go.IntKind.i64 0)) K w) (fun v37 w =>
  PickP v34 v37 (Go.Value.bool false) (fun v38 w =>
  R v38 w) w) w) w) w) w) w) w) w) w) w) w) w) w) w) w) w) w) w) w) w) w) w) w) w) w) w
theorem S24.calls (R : Value → World → Prop) (w : World) (h : S24 R w) : Calls Try.prog 24 #[] w fun e w' => ∃ v, e = .returned v ∧ R v w' :=
  calls_of_tr (n := 39) (c := bodyOf Try.f24) (.two .leaf (.two .leaf (.two .leaf (.two .leaf .leaf)))) Try.func24 (by kernel_rfl) Try.ntmps24 (by kernel_rfl) (by kernel_rfl) [] (by kernel_rfl) (of_eq_ (by kernel_rfl) h)

/-- shelfmark/frame.Wrap -/
def S25 (a0 : Value) (R : Value → World → Prop) (w : World) : Prop :=
  NextP Try.prog (builtin Go.Builtin.len #[23] 3 #[false] #[a0]) (fun v6 w =>
  LiftP Try.prog (binS Go.BinOp.gtr 3 (Go.Operand.tmp 6) (Go.Operand.const (Go.Value.int Go.IntKind.i64 65536)) v6 (Go.Value.int Go.IntKind.i64 65536)) (fun v7 w =>
  CondP v7 (fun w =>
    R (.tuple #[(Go.Value.slice none 0 0), (Go.Value.int Go.IntKind.i64 4)]) w) (fun w =>
    NextP Try.prog (builtin Go.Builtin.len #[23] 3 #[false] #[a0]) (fun v9 w =>
  LiftP Try.prog (convert 3 22 v9) (fun v10 w =>
  CallP Try.prog 21 #[v10] (fun v11 w =>
  CallP Try.prog 47 #[v11, a0] (fun v15 w =>
  CallP Try.prog 21 #[v15] (fun v16 w =>
  LiftP Try.prog (Instr.buildSlice 45 3 #[(0, v11), (1, v16), (2, a0)]) (fun v18 w =>
  CallP Try.prog 46 #[v18] (fun v19 w =>
  R (.tuple #[v19, (Go.Value.int Go.IntKind.i64 0)]) w) w) w) w) w) w) w) w) w) w) w
theorem S25.calls (a0 : Value) (R : Value → World → Prop) (w : World) (h : S25 a0 R w) : Calls Try.prog 25 #[a0] w fun e w' => ∃ v, e = .returned v ∧ R v w' :=
  calls_of_tr (n := 20) (c := bodyOf Try.f25) (.two .leaf (.two (.two .leaf (.two (.two .leaf .leaf) .leaf)) (.two .leaf (.two .leaf .leaf)))) Try.func25 (by kernel_rfl) Try.ntmps25 (by kernel_rfl) (by kernel_rfl) [a0] (by kernel_rfl) (of_eq_ (by kernel_rfl) h)

/-- shelfmark/shelfmarkref06.Wrap -/
def S26 (a0 : Value) (R : Value → World → Prop) (w : World) : Prop :=
  NextP Try.prog (builtin Go.Builtin.len #[23] 3 #[false] #[a0]) (fun v7 w =>
  LiftP Try.prog (binS Go.BinOp.gtr 3 (Go.Operand.tmp 7) (Go.Operand.const (Go.Value.int Go.IntKind.i64 65536)) v7 (Go.Value.int Go.IntKind.i64 65536)) (fun v8 w =>
  CondP v8 (fun w =>
    R (.tuple #[(Go.Value.slice none 0 0), (Go.Value.int Go.IntKind.i64 4)]) w) (fun w =>
    NextP Try.prog (builtin Go.Builtin.len #[23] 3 #[false] #[a0]) (fun v10 w =>
  LiftP Try.prog (convert 3 22 v10) (fun v11 w =>
  CallP Try.prog 23 #[v11] (fun v12 w =>
  LiftP Try.prog (Instr.buildSlice 23 0 #[]) (fun v13 w =>
  NextP Try.prog (builtin Go.Builtin.append #[23, 23] 23 #[false, false] #[v13, v12]) (fun v15 w =>
  NextP Try.prog (builtin Go.Builtin.append #[23, 23] 23 #[false, false] #[v15, a0]) (fun v17 w =>
  CallP Try.prog 18 #[v17] (fun v20 w =>
  CallP Try.prog 23 #[v20] (fun v21 w =>
  NextP Try.prog (builtin Go.Builtin.append #[23, 23] 23 #[false, false] #[v12, v21]) (fun v22 w =>
  NextP Try.prog (builtin Go.Builtin.append #[23, 23] 23 #[false, false] #[v22, a0]) (fun v24 w =>
  R (.tuple #[v24, (Go.Value.int Go.IntKind.i64 0)]) w) w) w) w) w) w) w) w) w) w) w) w) w) w
theorem S26.calls (a0 : Value) (R : Value → World → Prop) (w : World) (h : S26 a0 R w) : Calls Try.prog 26 #[a0] w fun e w' => ∃ v, e = .returned v ∧ R v w' :=
  calls_of_tr (n := 25) (c := bodyOf Try.f26) (.two .leaf (.two (.two .leaf (.two (.two .leaf .leaf) .leaf)) (.two .leaf (.two .leaf (.two .leaf .leaf))))) Try.func26 (by kernel_rfl) Try.ntmps26 (by kernel_rfl) (by kernel_rfl) [a0] (by kernel_rfl) (of_eq_ (by kernel_rfl) h)

/-- shelfmark/frame.First -/
def S27 (a0 : Value) (R : Value → World → Prop) (w : World) : Prop :=
  CallP Try.prog 48 #[a0] (fun v8 w =>
  LiftP Try.prog (Instr.extract v8 0) (fun v9 w =>
  LiftP Try.prog (Instr.extract v8 1) (fun v10 w =>
  LiftP Try.prog (Instr.extract v8 2) (fun v11 w =>
  NextP Try.prog (builtin Go.Builtin.len #[23] 3 #[false] #[v9]) (fun v13 w =>
  LiftP Try.prog (Instr.makeSlice 23 v13 v13) (fun v14 w =>
  NextP Try.prog (builtin Go.Builtin.copy #[23, 23] 3 #[false, false] #[v14, v9]) (fun v17 w =>
  R (.tuple #[v14, v10, v11]) w) w) w) w) w) w) w) w
theorem S27.calls (a0 : Value) (R : Value → World → Prop) (w : World) (h : S27 a0 R w) : Calls Try.prog 27 #[a0] w fun e w' => ∃ v, e = .returned v ∧ R v w' :=
  calls_of_tr (n := 21) (c := bodyOf Try.f27) (.two .leaf (.two .leaf (.two .leaf (.two .leaf (.two .leaf .leaf))))) Try.func27 (by kernel_rfl) Try.ntmps27 (by kernel_rfl) (by kernel_rfl) [a0] (by kernel_rfl) (of_eq_ (by kernel_rfl) h)

/-- shelfmark/shelfmarkref06.First -/
def S28 (a0 : Value) (R : Value → World → Prop) (w : World) : Prop :=
  LiftP Try.prog (Instr.alloc 42 true (.tuple #[])) (fun v2 w =>
  NextP Try.prog (builtin Go.Builtin.len #[23] 3 #[false] #[a0]) (fun v7 w =>
  LiftP Try.prog (binS Go.BinOp.lss 3 (Go.Operand.tmp 7) (Go.Operand.const (Go.Value.int Go.IntKind.i64 8)) v7 (Go.Value.int Go.IntKind.i64 8)) (fun v8 w =>
  CondP v8 (fun w =>
    LiftP Try.prog (Instr.build 42 #[(2, (Go.Value.int Go.IntKind.i64 2))]) (fun v9 w =>
    LiftU Try.prog (Instr.storeAt 42 v2 v9) (fun v_ w =>
    RetC Try.prog v2 42 (fun x => R x w) w) w) w) (fun w =>
    DrawP (fun S w =>
  YieldP Try.prog S (Instr.indexAt 23 a0 (Go.Value.int Go.IntKind.i64 0)) (fun v11 w =>
  YieldP Try.prog S (Instr.loadAt 5 v11) (fun v12 w =>
  YieldP Try.prog S (convert 5 3 v12) (fun v13 w =>
  YieldP Try.prog S (binS Go.BinOp.mul 3 (Go.Operand.tmp 13) (Go.Operand.const (Go.Value.int Go.IntKind.i64 16777216)) v13 (Go.Value.int Go.IntKind.i64 16777216)) (fun v14 w =>
  YieldP Try.prog S (Instr.indexAt 23 a0 (Go.Value.int Go.IntKind.i64 1)) (fun v16 w =>
  YieldP Try.prog S (Instr.loadAt 5 v16) (fun v17 w =>
  YieldP Try.prog S (convert 5 3 v17) (fun v18 w =>
  YieldP Try.prog S (binS Go.BinOp.mul 3 (Go.Operand.tmp 18) (Go.Operand.const (Go.Value.int Go.IntKind.i64 65536)) v18 (Go.Value.int Go.IntKind.i64 65536)) (fun v19 w =>
  YieldP Try.prog S (binS Go.BinOp.add 3 (Go.Operand.tmp 14) (Go.Operand.tmp 19) v14 v19) (fun v20 w =>
  YieldP Try.prog S (Instr.indexAt 23 a0 (Go.Value.int Go.IntKind.i64 2)) (fun v22 w =>
  YieldP Try.prog S (Instr.loadAt 5 v22) (fun v23 w =>
  YieldP Try.prog S (convert 5 3 v23) (fun v24 w =>
  YieldP Try.prog S (binS Go.BinOp.mul 3 (Go.Operand.tmp 24) (Go.Operand.const (Go.Value.int Go.IntKind.i64 256)) v24 (Go.Value.int Go.IntKind.i64 256)) (fun v25 w =>
  YieldP Try.prog S (binS Go.BinOp.add 3 (Go.Operand.tmp 20) (Go.Operand.tmp 25) v20 v25) (fun v26 w =>
  YieldP Try.prog S (Instr.indexAt 23 a0 (Go.Value.int Go.IntKind.i64 3)) (fun v28 w =>
  YieldP Try.prog S (Instr.loadAt 5 v28) (fun v29 w =>
  YieldP Try.prog S (convert 5 3 v29) (fun v30 w =>
  YieldP Try.prog S (binS Go.BinOp.add 3 (Go.Operand.tmp 26) (Go.Operand.tmp 30) v26 v30) (fun v31 w =>
  LiftP Try.prog (binS Go.BinOp.gtr 3 (Go.Operand.tmp 32) (Go.Operand.const (Go.Value.int Go.IntKind.i64 65536)) v31 (Go.Value.int Go.IntKind.i64 65536)) (fun v33 w =>
  CondP v33 (fun w =>
    LiftP Try.prog (Instr.build 42 #[(2, (Go.Value.int Go.IntKind.i64 4))]) (fun v34 w =>
    LiftU Try.prog (Instr.storeAt 42 v2 v34) (fun v__1 w =>
    RetC Try.prog v2 42 (fun x_1 => R x_1 w) w) w) w) (fun w =>
    NextP Try.prog (builtin Go.Builtin.len #[23] 3 #[false] #[a0]) (fun v36 w =>
  LiftP Try.prog (binS Go.BinOp.add 3 (Go.Operand.const (Go.Value.int Go.IntKind.i64 8)) (Go.Operand.tmp 37) (Go.Value.int Go.IntKind.i64 8) v31) (fun v38 w =>
  LiftP Try.prog (binS Go.BinOp.lss 3 (Go.Operand.tmp 36) (Go.Operand.tmp 38) v36 v38) (fun v39 w =>
  CondP v39 (fun w =>
    LiftP Try.prog (Instr.build 42 #[(2, (Go.Value.int Go.IntKind.i64 2))]) (fun v40 w =>
    LiftU Try.prog (Instr.storeAt 42 v2 v40) (fun v__2 w =>
    RetC Try.prog v2 42 (fun x_2 => R x_2 w) w) w) w) (fun w =>
    LiftP Try.prog (binS Go.BinOp.add 3 (Go.Operand.const (Go.Value.int Go.IntKind.i64 8)) (Go.Operand.tmp 43) (Go.Value.int Go.IntKind.i64 8) v31) (fun v44 w =>
  LiftP Try.prog (Instr.sliceAt 23 a0 (some (Go.Value.int Go.IntKind.i64 8)) (some v44) none) (fun v45 w =>
  CallP Try.prog 26 #[v45] (fun v46 w =>
  LiftP Try.prog (Instr.extract v46 0) (fun v47 w =>
  LiftP Try.prog (Instr.extract v46 1) (fun v48 w =>
  DrawP (fun S w =>
  YieldP Try.prog S (convert 23 9 v47) (fun v50 w =>
  YieldP Try.prog S (binS Go.BinOp.add 3 (Go.Operand.const (Go.Value.int Go.IntKind.i64 8)) (Go.Operand.tmp 52) (Go.Value.int Go.IntKind.i64 8) v31) (fun v53 w =>
  YieldP Try.prog S (Instr.sliceAt 23 a0 none (some v53) none) (fun v54 w =>
  YieldP Try.prog S (convert 23 9 v54) (fun v55 w =>
  YieldP Try.prog S (binS Go.BinOp.neq 9 (Go.Operand.tmp 50) (Go.Operand.tmp 55) v50 v55) (fun v56 w =>
  CondP v56 (fun w =>
    LiftP Try.prog (Instr.build 42 #[(2, (Go.Value.int Go.IntKind.i64 5))]) (fun v57 w =>
    LiftU Try.prog (Instr.storeAt 42 v2 v57) (fun v__3 w =>
    RetC Try.prog v2 42 (fun x_3 => R x_3 w) w) w) w) (fun w =>
    LiftP Try.prog (Instr.buildSlice 23 0 #[]) (fun v58 w =>
  LiftP Try.prog (binS Go.BinOp.add 3 (Go.Operand.const (Go.Value.int Go.IntKind.i64 8)) (Go.Operand.tmp 60) (Go.Value.int Go.IntKind.i64 8) v31) (fun v61 w =>
  LiftP Try.prog (Instr.sliceAt 23 a0 (some (Go.Value.int Go.IntKind.i64 8)) (some v61) none) (fun v62 w =>
  NextP Try.prog (builtin Go.Builtin.append #[23, 23] 23 #[false, false] #[v58, v62]) (fun v63 w =>
  LiftP Try.prog (binS Go.BinOp.add 3 (Go.Operand.const (Go.Value.int Go.IntKind.i64 8)) (Go.Operand.tmp 64) (Go.Value.int Go.IntKind.i64 8) v31) (fun v65 w =>
  LiftP Try.prog (Instr.build 42 #[(0, v63), (1, v65)]) (fun v66 w =>
  LiftU Try.prog (Instr.storeAt 42 v2 v66) (fun v__4 w =>
  RetC Try.prog v2 42 (fun x_4 => R x_4 w) w) w) w) w) w) w) w) w) w) w) w) w) w) w) w) w) w) w) w) w) w) w) w) w) w) w) w) w) w) w) w) w) w) w) w) w) w) w) w) w) w) w) w) w) w) w) w) w) w
theorem S28.calls (a0 : Value) (R : Value → World → Prop) (w : World) (h : S28 a0 R w) : Calls Try.prog 28 #[a0] w fun e w' => ∃ v, e = .returned v ∧ R v w' :=
  calls_of_tr (n := 67) (c := bodyOf Try.f28) (.two .leaf (.two (.two .leaf (.two (.two .leaf .leaf) .leaf)) (.two (.draw [(true, 0), (true, 1), (true, 2), (true, 3), (true, 4), (true, 5), (true, 6), (true, 7), (true, 8), (true, 9), (true, 10), (true, 11), (true, 12), (true, 13), (true, 14), (true, 15), (true, 16), (true, 17), (true, 18), (true, 19), (true, 20), (true, 21), (true, 22)]) (.two (.two .leaf (.two (.two .leaf .leaf) .leaf)) (.two (.two .leaf (.two (.two .leaf .leaf) .leaf)) (.two .leaf (.two (.two (.draw [(true, 0), (true, 1), (true, 2), (true, 3), (true, 4), (true, 5), (true, 6), (true, 7)]) (.two (.two .leaf .leaf) .leaf)) (.two .leaf .leaf)))))))) Try.func28 (by kernel_rfl) Try.ntmps28 (by kernel_rfl) (by kernel_rfl) [a0] (by kernel_rfl) (of_eq_ (by kernel_rfl) h)

/-- shelfmark/frame.Scan -/
def S29 (a0 : Value) (R : Value → World → Prop) (w : World) : Prop :=
  LoopP (fun J vs w =>   -- [2, 3]
    LiftP Try.prog (Instr.sliceAt 23 a0 (some (vs.tail.headD undef)) none none) (fun v10 w =>
    CallP Try.prog 48 #[v10] (fun v11 w =>
    LiftP Try.prog (Instr.extract v11 0) (fun v12 w =>
    LiftP Try.prog (Instr.extract v11 1) (fun v13 w =>
    LiftP Try.prog (Instr.extract v11 2) (fun v14 w =>
    LiftP Try.prog (binS Go.BinOp.neq 33 (Go.Operand.tmp 15) (Go.Operand.const (Go.Value.int Go.IntKind.i64 0)) v14 (Go.Value.int Go.IntKind.i64 0)) (fun v16 w =>
    CondP v16 (fun w =>
      R (.tuple #[(vs.headD undef), (vs.tail.headD undef)]) w) (fun w =>
      CallP Try.prog 50 #[v12] (fun v21 w =>
    CallP Try.prog 49 #[v21] (fun v22 w =>
    LiftP Try.prog (Instr.buildSlice 45 1 #[(0, v22)]) (fun v23 w =>
    NextP Try.prog (builtin Go.Builtin.append #[45, 45] 45 #[false, false] #[(vs.headD undef), v23]) (fun v24 w =>
    LiftP Try.prog (binS Go.BinOp.add 3 (Go.Operand.tmp 25) (Go.Operand.tmp 26) (vs.tail.headD undef) v13) (fun v27 w =>
    J [v24, v27] w) w) w) w) w) w) w) w) w) w) w) w) w) [(Go.Value.slice none 0 0), (Go.Value.int Go.IntKind.i64 0)] w
theorem S29.calls (a0 : Value) (R : Value → World → Prop) (w : World) (h : S29 a0 R w) : Calls Try.prog 29 #[a0] w fun e w' => ∃ v, e = .returned v ∧ R v w' :=
  calls_of_tr (n := 28) (c := bodyOf Try.f29) (.two .leaf (.one (.loop [2, 3] (.one (.two .leaf (.two (.two .leaf (.two (.two .leaf .leaf) .leaf)) (.two .leaf .leaf))))))) Try.func29 (by kernel_rfl) Try.ntmps29 (by kernel_rfl) (by kernel_rfl) [a0] (by kernel_rfl) (of_eq_ (by kernel_rfl) h)

/-- shelfmark/shelfmarkref06.Scan -/
def S30 (a0 : Value) (R : Value → World → Prop) (w : World) : Prop :=
  LoopP (fun J vs w =>   -- [4, 5]
    LiftP Try.prog (Instr.sliceAt 23 a0 (some (vs.tail.headD undef)) none none) (fun v9 w =>
    CallP Try.prog 28 #[v9] (fun v10 w =>
    LiftP Try.prog (Instr.alloc 42 true (.tuple #[])) (fun v6 w =>
    LiftU Try.prog (Instr.storeAt 42 v6 v10) (fun v_ w =>
    LiftP Try.prog (Instr.fieldAt 42 v6 2) (fun v11 w =>
    LiftP Try.prog (Instr.loadAt 33 v11) (fun v12 w =>
    LiftP Try.prog (binS Go.BinOp.neq 33 (Go.Operand.tmp 12) (Go.Operand.const (Go.Value.int Go.IntKind.i64 0)) v12 (Go.Value.int Go.IntKind.i64 0)) (fun v13 w =>
    CondP v13 (fun w =>
      R (.tuple #[(vs.headD undef), (vs.tail.headD undef)]) w) (fun w =>
      LiftP Try.prog (Instr.fieldAt 42 v6 0) (fun v17 w =>
    LiftP Try.prog (Instr.loadAt 23 v17) (fun v18 w =>
    LiftP Try.prog (Instr.buildSlice 45 1 #[(0, v18)]) (fun v19 w =>
    NextP Try.prog (builtin Go.Builtin.append #[45, 45] 45 #[false, false] #[(vs.headD undef), v19]) (fun v20 w =>
    LiftP Try.prog (Instr.fieldAt 42 v6 1) (fun v22 w =>
    LiftP Try.prog (Instr.loadAt 3 v22) (fun v23 w =>
    LiftP Try.prog (binS Go.BinOp.add 3 (Go.Operand.tmp 21) (Go.Operand.tmp 23) (vs.tail.headD undef) v23) (fun v24 w =>
    J [v20, v24] w) w) w) w) w) w) w) w) w) w) w) w) w) w) w) w) [(Go.Value.slice none 0 0), (Go.Value.int Go.IntKind.i64 0)] w
theorem S30.calls (a0 : Value) (R : Value → World → Prop) (w : World) (h : S30 a0 R w) : Calls Try.prog 30 #[a0] w fun e w' => ∃ v, e = .returned v ∧ R v w' :=
  calls_of_tr (n := 25) (c := bodyOf Try.f30) (.two .leaf (.two .leaf (.two .leaf (.one (.loop [4, 5] (.one (.two .leaf (.two (.two .leaf (.two (.two .leaf .leaf) .leaf)) (.two .leaf .leaf))))))))) Try.func30 (by kernel_rfl) Try.ntmps30 (by kernel_rfl) (by kernel_rfl) [a0] (by kernel_rfl) (of_eq_ (by kernel_rfl) h)

/-- shelfmark/shelfmarkref06.Same -/
def S31 (a0 a1 : Value) (R : Value → World → Prop) (w : World) : Prop :=
  NextP Try.prog (builtin Go.Builtin.len #[45] 3 #[false] #[a0]) (fun v7 w =>
  NextP Try.prog (builtin Go.Builtin.len #[45] 3 #[false] #[a1]) (fun v9 w =>
  LiftP Try.prog (binS Go.BinOp.neq 3 (Go.Operand.tmp 7) (Go.Operand.tmp 9) v7 v9) (fun v10 w =>
  CondP v10 (fun w =>
    R (Go.Value.bool false) w) (fun w =>
    LoopP (fun J vs w =>   -- [5]
    NextP Try.prog (builtin Go.Builtin.len #[45] 3 #[false] #[a0]) (fun v13 w =>
    LiftP Try.prog (binS Go.BinOp.lss 3 (Go.Operand.tmp 11) (Go.Operand.tmp 13) (vs.headD undef) v13) (fun v14 w =>
    CondP v14 (fun w =>
      DrawP (fun S w =>
    YieldP Try.prog S (Instr.indexAt 45 a0 (vs.headD undef)) (fun v19 w =>
    YieldP Try.prog S (Instr.loadAt 23 v19) (fun v20 w =>
    YieldP Try.prog S (convert 23 9 v20) (fun v21 w =>
    YieldP Try.prog S (Instr.indexAt 45 a1 (vs.headD undef)) (fun v24 w =>
    YieldP Try.prog S (Instr.loadAt 23 v24) (fun v25 w =>
    YieldP Try.prog S (convert 23 9 v25) (fun v26 w =>
    YieldP Try.prog S (binS Go.BinOp.neq 9 (Go.Operand.tmp 21) (Go.Operand.tmp 26) v21 v26) (fun v27 w =>
    CondP v27 (fun w =>
      R (Go.Value.bool false) w) (fun w =>
      LiftP Try.prog (binS Go.BinOp.add 3 (Go.Operand.tmp 15) (Go.Operand.const (Go.Value.int Go.IntKind.i64 1)) (vs.headD undef) (Go.Value.int Go.IntKind.i64 1)) (fun v16 w =>
    J [v16] w) w) w) w) w) w) w) w) w) w) w) (fun w =>
      R (Go.Value.bool true) w) w) w) w) [(Go.Value.int Go.IntKind.i64 0)] w) w) w) w) w
theorem S31.calls (a0 a1 : Value) (R : Value → World → Prop) (w : World) (h : S31 a0 a1 R w) : Calls Try.prog 31 #[a0, a1] w fun e w' => ∃ v, e = .returned v ∧ R v w' :=
  calls_of_tr (n := 28) (c := bodyOf Try.f31) (.two .leaf (.two (.two .leaf (.two (.two .leaf .leaf) .leaf)) (.two (.two .leaf (.one (.loop [5] (.two (.two .leaf (.two .leaf .leaf)) (.two (.one (.two (.draw [(true, 0), (true, 1), (true, 2), (true, 3), (true, 4), (true, 5), (true, 6), (true, 7), (true, 8), (true, 9), (true, 10)]) (.two (.two .leaf .leaf) .leaf))) .leaf))))) (.two .leaf .leaf)))) Try.func31 (by kernel_rfl) Try.ntmps31 (by kernel_rfl) (by kernel_rfl) [a0, a1] (by kernel_rfl) (of_eq_ (by kernel_rfl) h)

/-- shelfmark/shelfmarkref06.Bulk -/
def S32 (a0 a1 : Value) (R : Value → World → Prop) (w : World) : Prop :=
  LoopP (fun J vs w =>   -- [5, 6]
    NextP Try.prog (builtin Go.Builtin.len #[45] 3 #[false] #[a0]) (fun v9 w =>
    LiftP Try.prog (binS Go.BinOp.lss 3 (Go.Operand.tmp 7) (Go.Operand.tmp 9) (vs.tail.headD undef) v9) (fun v10 w =>
    GuardP v10 true (fun K w => K (vs.headD undef) w) (fun v12 w =>
    GuardP v10 true (fun K w => K a1 w) (fun v13 w =>
    GuardP v10 true (fun K w => LiftP Try.prog (binS Go.BinOp.leq 3 (Go.Operand.tmp 12) (Go.Operand.tmp 13) v12 v13) K w) (fun v14 w =>
    PickP v10 v14 (Go.Value.bool false) (fun v15 w =>
    CondP v15 (fun w =>
      LiftP Try.prog (binS Go.BinOp.add 3 (Go.Operand.tmp 18) (Go.Operand.const (Go.Value.int Go.IntKind.i64 1)) (vs.headD undef) (Go.Value.int Go.IntKind.i64 1)) (fun v19 w =>
    LiftP Try.prog (Instr.indexAt 45 a0 (vs.tail.headD undef)) (fun v22 w =>
    LiftP Try.prog (Instr.loadAt 23 v22) (fun v23 w =>
    NextP Try.prog (builtin Go.Builtin.len #[23] 3 #[false] #[v23]) (fun v24 w =>
    NextP Try.prog (builtin Go.Builtin.min #[3, 3] 3 #[false, false] #[v24, a1]) (fun v26 w =>
    LiftP Try.prog (binS Go.BinOp.add 3 (Go.Operand.tmp 19) (Go.Operand.tmp 26) v19 v26) (fun v27 w =>
    LiftP Try.prog (binS Go.BinOp.add 3 (Go.Operand.tmp 16) (Go.Operand.const (Go.Value.int Go.IntKind.i64 1)) (vs.tail.headD undef) (Go.Value.int Go.IntKind.i64 1)) (fun v17 w =>
    J [v27, v17] w) w) w) w) w) w) w) w) (fun w =>
      R (vs.headD undef) w) w) w) w) w) w) w) w) [(Go.Value.int Go.IntKind.i64 0), (Go.Value.int Go.IntKind.i64 0)] w
theorem S32.calls (a0 a1 : Value) (R : Value → World → Prop) (w : World) (h : S32 a0 a1 R w) : Calls Try.prog 32 #[a0, a1] w fun e w' => ∃ v, e = .returned v ∧ R v w' :=
  calls_of_tr (n := 29) (c := bodyOf Try.f32) (.two .leaf (.two .leaf (.two (.two .leaf (.one (.loop [5, 6] (.two (.two .leaf (.two .leaf .leaf)) (.two (.one .leaf) .leaf))))) (.two .leaf .leaf)))) Try.func32 (by kernel_rfl) Try.ntmps32 (by kernel_rfl) (by kernel_rfl) [a0, a1] (by kernel_rfl) (of_eq_ (by kernel_rfl) h)

/-- slices.Concat[[]byte,byte] -/
def S46 (a0 : Value) (R : Value → World → Prop) (w : World) : Prop :=
  NextP Try.prog (builtin Go.Builtin.len #[45] 3 #[false] #[a0]) (fun v10 w =>
  LoopP (fun J vs w =>   -- [3, 11]
    LiftP Try.prog (binS Go.BinOp.lss 3 (Go.Operand.tmp 11) (Go.Operand.tmp 10) (vs.tail.headD undef) v10) (fun v12 w =>
    CondP v12 (fun w =>
      JoinP (fun J_1 w =>
      LiftP Try.prog (Instr.indexAt 45 a0 (vs.tail.headD undef)) (fun v13 w =>
      LiftP Try.prog (Instr.loadAt 23 v13) (fun v14 w =>
      NextP Try.prog (builtin Go.Builtin.len #[23] 3 #[false] #[v14]) (fun v17 w =>
      LiftP Try.prog (binS Go.BinOp.add 3 (Go.Operand.tmp 15) (Go.Operand.tmp 17) (vs.headD undef) v17) (fun v18 w =>
      LiftP Try.prog (binS Go.BinOp.lss 3 (Go.Operand.tmp 19) (Go.Operand.const (Go.Value.int Go.IntKind.i64 0)) v18 (Go.Value.int Go.IntKind.i64 0)) (fun v20 w =>
      CondP v20 (fun w =>
        LiftP Try.prog (Instr.makeInterface 9 (Go.Value.string { data := #[108, 101, 110, 32, 111, 117, 116, 32, 111, 102, 32, 114, 97, 110, 103, 101] })) (fun v21 w =>
        LiftP Try.prog (Instr.panic v21) (fun v_ w =>
        J_1 [v18] w) w) w) (fun w =>
        J_1 [v18] w) w) w) w) w) w) w) (fun vs_1 w =>   -- [3]
    LiftP Try.prog (binS Go.BinOp.add 3 (Go.Operand.tmp 11) (Go.Operand.const (Go.Value.int Go.IntKind.i64 1)) (vs.tail.headD undef) (Go.Value.int Go.IntKind.i64 1)) (fun v22 w =>
    J [(vs_1.headD undef), v22] w) w) w) (fun w =>
      CallP Try.prog 52 #[(Go.Value.slice none 0 0), (vs.headD undef)] (fun v24 w =>
  NextP Try.prog (builtin Go.Builtin.len #[45] 3 #[false] #[a0]) (fun v26 w =>
  LoopP (fun J_2 vs_2 w =>   -- [6, 27]
    LiftP Try.prog (binS Go.BinOp.lss 3 (Go.Operand.tmp 27) (Go.Operand.tmp 26) (vs_2.tail.headD undef) v26) (fun v28 w =>
    CondP v28 (fun w =>
      LiftP Try.prog (Instr.indexAt 45 a0 (vs_2.tail.headD undef)) (fun v29 w =>
    LiftP Try.prog (Instr.loadAt 23 v29) (fun v30 w =>
    NextP Try.prog (builtin Go.Builtin.append #[23, 23] 23 #[false, false] #[(vs_2.headD undef), v30]) (fun v33 w =>
    LiftP Try.prog (binS Go.BinOp.add 3 (Go.Operand.tmp 27) (Go.Operand.const (Go.Value.int Go.IntKind.i64 1)) (vs_2.tail.headD undef) (Go.Value.int Go.IntKind.i64 1)) (fun v34 w =>
    J_2 [v33, v34] w) w) w) w) w) (fun w =>
      R (vs_2.headD undef) w) w) w) [v24, (Go.Value.int Go.IntKind.i64 0)] w) w) w) w) w) [(Go.Value.int Go.IntKind.i64 0), (Go.Value.int Go.IntKind.i64 0)] w) w
theorem S46.calls (a0 : Value) (R : Value → World → Prop) (w : World) (h : S46 a0 R w) : Calls Try.prog 46 #[a0] w fun e w' => ∃ v, e = .returned v ∧ R v w' :=
  calls_of_tr (n := 36) (c := bodyOf Try.f46) (.two .leaf (.two .leaf (.two (.two .leaf (.one (.loop [3, 11] (.two .leaf (.two (.two .leaf .leaf) (.join [3] (.one (.two .leaf (.two .leaf (.two .leaf (.two .leaf .leaf))))) .leaf)))))) (.two .leaf (.two (.two .leaf (.one (.loop [6, 27] (.two .leaf (.two (.two .leaf .leaf) (.two (.one (.two .leaf .leaf)) .leaf)))))) (.two .leaf .leaf)))))) Try.func46 (by kernel_rfl) Try.ntmps46 (by kernel_rfl) (by kernel_rfl) [a0] (by kernel_rfl) (of_eq_ (by kernel_rfl) h)

/-- shelfmark/frame.seal -/
def S47 (a0 a1 : Value) (R : Value → World → Prop) (w : World) : Prop :=
  CallP Try.prog 17 #[a0] (fun v6 w =>
  CallP Try.prog 19 #[v6, a1] (fun v8 w =>
  R v8 w) w) w
theorem S47.calls (a0 a1 : Value) (R : Value → World → Prop) (w : World) (h : S47 a0 a1 R w) : Calls Try.prog 47 #[a0, a1] w fun e w' => ∃ v, e = .returned v ∧ R v w' :=
  calls_of_tr (n := 9) (c := bodyOf Try.f47) (.two .leaf (.two .leaf .leaf)) Try.func47 (by kernel_rfl) Try.ntmps47 (by kernel_rfl) (by kernel_rfl) [a0, a1] (by kernel_rfl) (of_eq_ (by kernel_rfl) h)

/-- shelfmark/frame.view -/
def S48 (a0 : Value) (R : Value → World → Prop) (w : World) : Prop :=
  NextP Try.prog (builtin Go.Builtin.len #[23] 3 #[false] #[a0]) (fun v11 w =>
  LiftP Try.prog (binS Go.BinOp.lss 3 (Go.Operand.tmp 11) (Go.Operand.const (Go.Value.int Go.IntKind.i64 8)) v11 (Go.Value.int Go.IntKind.i64 8)) (fun v12 w =>
  CondP v12 (fun w =>
    R (.tuple #[(Go.Value.slice none 0 0), (Go.Value.int Go.IntKind.i64 0), (Go.Value.int Go.IntKind.i64 2)]) w) (fun w =>
    CallP Try.prog 22 #[a0, (Go.Value.int Go.IntKind.i64 0)] (fun v15 w =>
  LiftP Try.prog (Instr.extract v15 0) (fun v16 w =>
  LiftP Try.prog (Instr.extract v15 1) (fun v17 w =>
  LiftP Try.prog (binS Go.BinOp.gtr 22 (Go.Operand.tmp 18) (Go.Operand.const (Go.Value.int Go.IntKind.u32 65536)) v16 (Go.Value.int Go.IntKind.u32 65536)) (fun v19 w =>
  CondP v19 (fun w =>
    R (.tuple #[(Go.Value.slice none 0 0), (Go.Value.int Go.IntKind.i64 0), (Go.Value.int Go.IntKind.i64 4)]) w) (fun w =>
    LiftP Try.prog (convert 22 3 v16) (fun v21 w =>
  LiftP Try.prog (binS Go.BinOp.add 3 (Go.Operand.const (Go.Value.int Go.IntKind.i64 8)) (Go.Operand.tmp 21) (Go.Value.int Go.IntKind.i64 8) v21) (fun v22 w =>
  NextP Try.prog (builtin Go.Builtin.len #[23] 3 #[false] #[a0]) (fun v24 w =>
  LiftP Try.prog (binS Go.BinOp.lss 3 (Go.Operand.tmp 24) (Go.Operand.tmp 25) v24 v22) (fun v26 w =>
  CondP v26 (fun w =>
    R (.tuple #[(Go.Value.slice none 0 0), (Go.Value.int Go.IntKind.i64 0), (Go.Value.int Go.IntKind.i64 2)]) w) (fun w =>
    CallP Try.prog 22 #[a0, (Go.Value.int Go.IntKind.i64 4)] (fun v29 w =>
  LiftP Try.prog (Instr.extract v29 0) (fun v30 w =>
  LiftP Try.prog (Instr.extract v29 1) (fun v31 w =>
  DrawP (fun S w =>
  YieldP Try.prog S (Instr.sliceAt 23 a0 none (some (Go.Value.int Go.IntKind.i64 4)) none) (fun v34 w =>
  YieldP Try.prog S (Instr.sliceAt 23 a0 (some (Go.Value.int Go.IntKind.i64 8)) (some v22) none) (fun v37 w =>
  ActP S (fun K w => CallP Try.prog 47 #[v34, v37] K w) (fun S v38 w =>
  YieldP Try.prog S (binS Go.BinOp.neq 22 (Go.Operand.tmp 32) (Go.Operand.tmp 38) v30 v38) (fun v39 w =>
  CondP v39 (fun w =>
    R (.tuple #[(Go.Value.slice none 0 0), (Go.Value.int Go.IntKind.i64 0), (Go.Value.int Go.IntKind.i64 5)]) w) (fun w =>
    LiftP Try.prog (Instr.sliceAt 23 a0 (some (Go.Value.int Go.IntKind.i64 8)) (some v22) none) (fun v42 w =>
  R (.tuple #[v42, v22, (Go.Value.int Go.IntKind.i64 0)]) w) w) w) w) w) w) w) w) w) w) w) w) w) w) w) w) w) w) w) w) w) w) w) w
theorem S48.calls (a0 : Value) (R : Value → World → Prop) (w : World) (h : S48 a0 R w) : Calls Try.prog 48 #[a0] w fun e w' => ∃ v, e = .returned v ∧ R v w' :=
  calls_of_tr (n := 44) (c := bodyOf Try.f48) (.two .leaf (.two (.two .leaf (.two (.two .leaf .leaf) .leaf)) (.two .leaf (.two (.two .leaf (.two (.two .leaf .leaf) .leaf)) (.two .leaf (.two (.two .leaf (.two (.two .leaf .leaf) .leaf)) (.two (.two .leaf (.two (.draw [(true, 0), (true, 1), (true, 2), (true, 3), (true, 4), (true, 5), (false, 6), (true, 7)]) (.two (.two .leaf .leaf) .leaf))) (.two .leaf .leaf)))))))) Try.func48 (by kernel_rfl) Try.ntmps48 (by kernel_rfl) (by kernel_rfl) [a0] (by kernel_rfl) (of_eq_ (by kernel_rfl) h)

/-- slices.Clip[[]byte,byte] -/
def S49 (a0 : Value) (R : Value → World → Prop) (w : World) : Prop :=
  NextP Try.prog (builtin Go.Builtin.len #[23] 3 #[false] #[a0]) (fun v5 w =>
  NextP Try.prog (builtin Go.Builtin.len #[23] 3 #[false] #[a0]) (fun v7 w =>
  LiftP Try.prog (Instr.sliceAt 23 a0 none (some v5) (some v7)) (fun v8 w =>
  R v8 w) w) w) w
theorem S49.calls (a0 : Value) (R : Value → World → Prop) (w : World) (h : S49 a0 R w) : Calls Try.prog 49 #[a0] w fun e w' => ∃ v, e = .returned v ∧ R v w' :=
  calls_of_tr (n := 9) (c := bodyOf Try.f49) (.two .leaf (.two .leaf .leaf)) Try.func49 (by kernel_rfl) Try.ntmps49 (by kernel_rfl) (by kernel_rfl) [a0] (by kernel_rfl) (of_eq_ (by kernel_rfl) h)

/-- slices.Clone[[]byte,byte] -/
def S50 (a0 : Value) (R : Value → World → Prop) (w : World) : Prop :=
  LiftP Try.prog (binS Go.BinOp.eql 23 (Go.Operand.tmp 3) (Go.Operand.const (Go.Value.slice none 0 0)) a0 (Go.Value.slice none 0 0)) (fun v4 w =>
  CondP v4 (fun w =>
    R (Go.Value.slice none 0 0) w) (fun w =>
    LiftP Try.prog (Instr.buildSlice 23 0 #[]) (fun v5 w =>
  NextP Try.prog (builtin Go.Builtin.append #[23, 23] 23 #[false, false] #[v5, a0]) (fun v7 w =>
  R v7 w) w) w) w) w
theorem S50.calls (a0 : Value) (R : Value → World → Prop) (w : World) (h : S50 a0 R w) : Calls Try.prog 50 #[a0] w fun e w' => ∃ v, e = .returned v ∧ R v w' :=
  calls_of_tr (n := 8) (c := bodyOf Try.f50) (.two .leaf (.two (.two .leaf (.two (.two .leaf .leaf) .leaf)) (.two .leaf .leaf))) Try.func50 (by kernel_rfl) Try.ntmps50 (by kernel_rfl) (by kernel_rfl) [a0] (by kernel_rfl) (of_eq_ (by kernel_rfl) h)

/-- slices.Grow[[]byte,byte] -/
def S52 (a0 a1 : Value) (R : Value → World → Prop) (w : World) : Prop :=
  JoinP (fun J w =>
    LiftP Try.prog (binS Go.BinOp.lss 3 (Go.Operand.tmp 5) (Go.Operand.const (Go.Value.int Go.IntKind.i64 0)) a1 (Go.Value.int Go.IntKind.i64 0)) (fun v6 w =>
    CondP v6 (fun w =>
      LiftP Try.prog (Instr.makeInterface 9 (Go.Value.string { data := #[99, 97, 110, 110, 111, 116, 32, 98, 101, 32, 110, 101, 103, 97, 116, 105, 118, 101] })) (fun v7 w =>
      LiftP Try.prog (Instr.panic v7) (fun v_ w =>
      J [] w) w) w) (fun w =>
      J [] w) w) w) (fun vs w =>   -- []
  JoinP (fun J_1 w =>
    NextP Try.prog (builtin Go.Builtin.cap #[23] 3 #[false] #[a0]) (fun v10 w =>
    NextP Try.prog (builtin Go.Builtin.len #[23] 3 #[false] #[a0]) (fun v12 w =>
    LiftP Try.prog (binS Go.BinOp.sub 3 (Go.Operand.tmp 10) (Go.Operand.tmp 12) v10 v12) (fun v13 w =>
    LiftP Try.prog (binS Go.BinOp.sub 3 (Go.Operand.tmp 8) (Go.Operand.tmp 13) a1 v13) (fun v14 w =>
    LiftP Try.prog (binS Go.BinOp.gtr 3 (Go.Operand.tmp 15) (Go.Operand.const (Go.Value.int Go.IntKind.i64 0)) v14 (Go.Value.int Go.IntKind.i64 0)) (fun v16 w =>
    CondP v16 (fun w =>
      NextP Try.prog (builtin Go.Builtin.cap #[23] 3 #[false] #[a0]) (fun v19 w =>
      LiftP Try.prog (Instr.sliceAt 23 a0 none (some v19) none) (fun v20 w =>
      NextP Try.prog (builtin Go.Builtin.append #[23, 3] 23 #[false, false] #[v20, v14]) (fun v22 w =>
      NextP Try.prog (builtin Go.Builtin.len #[23] 3 #[false] #[a0]) (fun v24 w =>
      LiftP Try.prog (Instr.sliceAt 23 v22 none (some v24) none) (fun v25 w =>
      J_1 [v25] w) w) w) w) w) w) (fun w =>
      J_1 [a0] w) w) w) w) w) w) w) (fun vs_1 w =>   -- [0]
  R (vs_1.headD undef) w) w) w
theorem S52.calls (a0 a1 : Value) (R : Value → World → Prop) (w : World) (h : S52 a0 a1 R w) : Calls Try.prog 52 #[a0, a1] w fun e w' => ∃ v, e = .returned v ∧ R v w' :=
  calls_of_tr (n := 27) (c := bodyOf Try.f52) (.two .leaf (.join [] (.two .leaf (.two .leaf .leaf)) (.join [0] (.two .leaf (.two .leaf (.two .leaf .leaf))) (.two .leaf .leaf)))) Try.func52 (by kernel_rfl) Try.ntmps52 (by kernel_rfl) (by kernel_rfl) [a0, a1] (by kernel_rfl) (of_eq_ (by kernel_rfl) h)

end Go.Proofs.Ytgaamfdhjpkicaa.E
