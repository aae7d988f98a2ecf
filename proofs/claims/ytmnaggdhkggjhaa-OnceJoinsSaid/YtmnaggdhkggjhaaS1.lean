import Derived.Test.YtmnaggdhkggjhaaM1
import Derived.Test.YtmnaggdhkggjhaaProg
import Derived.KernelRfl
namespace Go.Proofs.Ytmnaggdhkggjhaa.E
open Go
set_option maxRecDepth 100000

/-- shelfmark/shelfmarklaw17.OnceKeeps -/
def S3 (a0 a1 a2 : Value) (R : Value → World → Prop) (w : World) : Prop :=
  LiftP Try.prog (Instr.box 27 a2) (fun v5 w =>
  CallP Try.prog 8 #[] (fun v17 w =>
  LiftP Try.prog (Op.unary Go.UnOp.not v17) (fun v18 w =>
  CondP v18 (fun w =>
    R (Go.Value.bool false) w) (fun w =>
    LiftP Try.prog (Instr.fieldAt 27 v5 2) (fun v19 w =>
  LiftP Try.prog (Instr.loadAt 24 v19) (fun v20 w =>
  CallP Try.prog 9 #[v20, (Go.Value.int Go.IntKind.i64 300)] (fun v21 w =>
  LiftP Try.prog (Op.unary Go.UnOp.not v21) (fun v22 w =>
  GuardP v22 false (fun K w => LiftP Try.prog (Instr.fieldAt 27 v5 3) K w) (fun v24 w =>
  GuardP v22 false (fun K w => LiftP Try.prog (Instr.loadAt 25 v24) K w) (fun v25 w =>
  GuardP v22 false (fun K w => NextP Try.prog (builtin Go.Builtin.len #[25] 3 #[false] #[v25]) K w) (fun v26 w =>
  GuardP v22 false (fun K w => LiftP Try.prog (binS Go.BinOp.gtr 3 (Go.Operand.tmp 26) (Go.Operand.const (Go.Value.int Go.IntKind.i64 10)) v26 (Go.Value.int Go.IntKind.i64 10)) K w) (fun v27 w =>
  PickP v22 (Go.Value.bool true) v27 (fun v28 w =>
  CondP v28 (fun w =>
    R (Go.Value.bool true) w) (fun w =>
    LiftP Try.prog (Instr.loadAt 27 v5) (fun v29 w =>
  LiftP Try.prog (Instr.alloc 27 true (.tuple #[])) (fun v7 w =>
  LiftU Try.prog (Instr.storeAt 27 v7 v29) (fun v_ w =>
  LiftP Try.prog (Instr.buildSlice 24 0 #[]) (fun v30 w =>
  LiftP Try.prog (Instr.fieldAt 27 v5 2) (fun v31 w =>
  LiftP Try.prog (Instr.loadAt 24 v31) (fun v32 w =>
  NextP Try.prog (builtin Go.Builtin.append #[24, 24] 24 #[false, false] #[v30, v32]) (fun v33 w =>
  LiftP Try.prog (Instr.fieldAt 27 v7 2) (fun v34 w =>
  LiftU Try.prog (Instr.storeAt 24 v34 v33) (fun v__1 w =>
  CallP Try.prog 10 #[] (fun v35 w =>
  LiftP Try.prog (Instr.loadAt 27 v7) (fun v39 w =>
  CallP Try.prog 11 #[v35, a0, a1, v39] (fun v40 w =>
  LiftP Try.prog (binS Go.BinOp.neq 22 (Go.Operand.tmp 40) (Go.Operand.const (Go.Value.int Go.IntKind.i64 0)) v40 (Go.Value.int Go.IntKind.i64 0)) (fun v41 w =>
  CondP v41 (fun w =>
    CallP Try.prog 12 #[v35, a0, a1] (fun v46 w =>
    LiftP Try.prog (Instr.extract v46 0) (fun v47 w =>
    LiftP Try.prog (Instr.extract v46 1) (fun v48 w =>
    LiftP Try.prog (Instr.alloc 27 true (.tuple #[])) (fun v9 w =>
    LiftU Try.prog (Instr.storeAt 27 v9 v47) (fun v__2 w =>
    LiftP Try.prog (binS Go.BinOp.eql 22 (Go.Operand.tmp 49) (Go.Operand.const (Go.Value.int Go.IntKind.i64 1)) v48 (Go.Value.int Go.IntKind.i64 1)) (fun v50 w =>
    GuardP v50 false (fun K w => K v48 w) (fun v52 w =>
    GuardP v50 false (fun K w => LiftP Try.prog (binS Go.BinOp.eql 22 (Go.Operand.tmp 52) (Go.Operand.const (Go.Value.int Go.IntKind.i64 7)) v52 (Go.Value.int Go.IntKind.i64 7)) K w) (fun v53 w =>
    PickP v50 (Go.Value.bool true) v53 (fun v54 w =>
    R v54 w) w) w) w) w) w) w) w) w) w) (fun w =>
    LoopP (fun J vs w =>   -- [11]
    LiftP Try.prog (Instr.fieldAt 27 v7 2) (fun v56 w =>
    LiftP Try.prog (Instr.loadAt 24 v56) (fun v57 w =>
    NextP Try.prog (builtin Go.Builtin.len #[24] 3 #[false] #[v57]) (fun v58 w =>
    LiftP Try.prog (binS Go.BinOp.lss 3 (Go.Operand.tmp 55) (Go.Operand.tmp 58) (vs.headD undef) v58) (fun v59 w =>
    CondP v59 (fun w =>
      LiftP Try.prog (Instr.fieldAt 27 v7 2) (fun v62 w =>
    LiftP Try.prog (Instr.loadAt 24 v62) (fun v63 w =>
    LiftP Try.prog (Instr.build 36 #[(0, (Go.Value.int Go.IntKind.i64 9))]) (fun v65 w =>
    LiftP Try.prog (Instr.indexAt 24 v63 (vs.headD undef)) (fun v66 w =>
    LiftU Try.prog (Instr.storeAt 36 v66 v65) (fun v__3 w =>
    LiftP Try.prog (binS Go.BinOp.add 3 (Go.Operand.tmp 60) (Go.Operand.const (Go.Value.int Go.IntKind.i64 1)) (vs.headD undef) (Go.Value.int Go.IntKind.i64 1)) (fun v61 w =>
    J [v61] w) w) w) w) w) w) w) (fun w =>
      CallP Try.prog 12 #[v35, a0, a1] (fun v71 w =>
  LiftP Try.prog (Instr.extract v71 0) (fun v72 w =>
  LiftP Try.prog (Instr.extract v71 1) (fun v73 w =>
  LiftP Try.prog (Instr.alloc 27 true (.tuple #[])) (fun v12 w =>
  LiftU Try.prog (Instr.storeAt 27 v12 v72) (fun v__4 w =>
  LoopP (fun J_1 vs_1 w =>   -- [14]
    LiftP Try.prog (Instr.fieldAt 27 v12 2) (fun v75 w =>
    LiftP Try.prog (Instr.loadAt 24 v75) (fun v76 w =>
    NextP Try.prog (builtin Go.Builtin.len #[24] 3 #[false] #[v76]) (fun v77 w =>
    LiftP Try.prog (binS Go.BinOp.lss 3 (Go.Operand.tmp 74) (Go.Operand.tmp 77) (vs_1.headD undef) v77) (fun v78 w =>
    CondP v78 (fun w =>
      LiftP Try.prog (Instr.fieldAt 27 v12 2) (fun v81 w =>
    LiftP Try.prog (Instr.loadAt 24 v81) (fun v82 w =>
    LiftP Try.prog (Instr.build 36 #[(0, (Go.Value.int Go.IntKind.i64 9))]) (fun v84 w =>
    LiftP Try.prog (Instr.indexAt 24 v82 (vs_1.headD undef)) (fun v85 w =>
    LiftU Try.prog (Instr.storeAt 36 v85 v84) (fun v__5 w =>
    LiftP Try.prog (binS Go.BinOp.add 3 (Go.Operand.tmp 79) (Go.Operand.const (Go.Value.int Go.IntKind.i64 1)) (vs_1.headD undef) (Go.Value.int Go.IntKind.i64 1)) (fun v80 w =>
    J_1 [v80] w) w) w) w) w) w) w) (fun w =>
      CallP Try.prog 12 #[v35, a0, a1] (fun v90 w =>
  LiftP Try.prog (Instr.extract v90 0) (fun v91 w =>
  LiftP Try.prog (Instr.extract v90 1) (fun v92 w =>
  LiftP Try.prog (Instr.alloc 27 true (.tuple #[])) (fun v15 w =>
  LiftU Try.prog (Instr.storeAt 27 v15 v91) (fun v__6 w =>
  LiftP Try.prog (binS Go.BinOp.eql 22 (Go.Operand.tmp 93) (Go.Operand.const (Go.Value.int Go.IntKind.i64 0)) v92 (Go.Value.int Go.IntKind.i64 0)) (fun v94 w =>
  GuardP v94 true (fun K w => LiftP Try.prog (Instr.loadAt 27 v15) K w) (fun v96 w =>
  GuardP v94 true (fun K w => LiftP Try.prog (Instr.loadAt 27 v5) K w) (fun v97 w =>
  GuardP v94 true (fun K w => CallP Try.prog 13 #[v96, v97] K w) (fun v98 w =>
  PickP v94 v98 (Go.Value.bool false) (fun v99 w =>
  R v99 w) w) w) w) w) w) w) w) w) w) w) w) w) w) w) w) [(Go.Value.int Go.IntKind.i64 0)] w) w) w) w) w) w) w) w) w) w) w) [(Go.Value.int Go.IntKind.i64 0)] w) w) w) w) w) w) w) w) w) w) w) w) w) w) w) w) w) w) w) w) w) w) w) w) w) w) w) w) w
theorem S3.calls (a0 a1 a2 : Value) (R : Value → World → Prop) (w : World) (h : S3 a0 a1 a2 R w) : Calls Try.prog 3 #[a0, a1, a2] w fun e w' => ∃ v, e = .returned v ∧ R v w' :=
  calls_of_tr (n := 100) (c := bodyOf Try.f3) (.two .leaf (.two (.two .leaf (.two (.two .leaf .leaf) .leaf)) (.two (.two .leaf (.two (.two .leaf .leaf) .leaf)) (.two .leaf (.two .leaf (.two .leaf (.two (.two .leaf (.two (.two .leaf (.two .leaf .leaf)) .leaf)) (.two (.two .leaf (.one (.loop [11] (.two (.two .leaf (.two .leaf .leaf)) (.two (.one .leaf) .leaf))))) (.two .leaf (.two (.two .leaf (.one (.loop [14] (.two (.two .leaf (.two .leaf .leaf)) (.two (.one .leaf) .leaf))))) (.two .leaf (.two .leaf .leaf)))))))))))) Try.func3 (by kernel_rfl) Try.ntmps3 (by kernel_rfl) (by kernel_rfl) [a0, a1, a2] (by kernel_rfl) (of_eq_ (by kernel_rfl) h)

/-- shelfmark/shelfmarklaw17.awake -/
def S8 (R : Value → World → Prop) (w : World) : Prop :=
  CallP Try.prog 10 #[] (fun v9 w =>
  LiftP Try.prog (binS Go.BinOp.eql 30 (Go.Operand.tmp 10) (Go.Operand.const (Go.Value.pointer none)) v9 (Go.Value.pointer none)) (fun v11 w =>
  GuardP v11 false (fun K w => K v9 w) (fun v13 w =>
  GuardP v11 false (fun K w => LiftP Try.prog (Instr.build 27 #[(1, (Go.Value.bool true))]) K w) (fun v14 w =>
  GuardP v11 false (fun K w => CallP Try.prog 11 #[v13, (Go.Value.int Go.IntKind.i64 1), (Go.Value.int Go.IntKind.i64 5), v14] K w) (fun v15 w =>
  GuardP v11 false (fun K w => LiftP Try.prog (binS Go.BinOp.neq 22 (Go.Operand.tmp 15) (Go.Operand.const (Go.Value.int Go.IntKind.i64 0)) v15 (Go.Value.int Go.IntKind.i64 0)) K w) (fun v16 w =>
  PickP v11 (Go.Value.bool true) v16 (fun v17 w =>
  CondP v17 (fun w =>
    R (Go.Value.bool false) w) (fun w =>
    CallP Try.prog 12 #[v9, (Go.Value.int Go.IntKind.i64 1), (Go.Value.int Go.IntKind.i64 5)] (fun v20 w =>
  LiftP Try.prog (Instr.extract v20 0) (fun v21 w =>
  LiftP Try.prog (Instr.extract v20 1) (fun v22 w =>
  LiftP Try.prog (Instr.alloc 27 true (.tuple #[])) (fun v2 w =>
  LiftU Try.prog (Instr.storeAt 27 v2 v21) (fun v_ w =>
  CallP Try.prog 12 #[v9, (Go.Value.int Go.IntKind.i64 1), (Go.Value.int Go.IntKind.i64 4)] (fun v25 w =>
  LiftP Try.prog (Instr.extract v25 0) (fun v26 w =>
  LiftP Try.prog (Instr.extract v25 1) (fun v27 w =>
  LiftP Try.prog (Instr.alloc 27 true (.tuple #[])) (fun v4 w =>
  LiftU Try.prog (Instr.storeAt 27 v4 v26) (fun v__1 w =>
  LoopP (fun J vs w =>   -- [6]
    LiftP Try.prog (binS Go.BinOp.lss 3 (Go.Operand.tmp 28) (Go.Operand.const (Go.Value.int Go.IntKind.i64 10)) (vs.headD undef) (Go.Value.int Go.IntKind.i64 10)) (fun v29 w =>
    CondP v29 (fun w =>
      LiftP Try.prog (Instr.build 27 #[]) (fun v34 w =>
    CallP Try.prog 11 #[v9, (Go.Value.int Go.IntKind.i64 1), (vs.headD undef), v34] (fun v35 w =>
    LiftP Try.prog (binS Go.BinOp.add 3 (Go.Operand.tmp 30) (Go.Operand.const (Go.Value.int Go.IntKind.i64 1)) (vs.headD undef) (Go.Value.int Go.IntKind.i64 1)) (fun v31 w =>
    J [v31] w) w) w) w) (fun w =>
      CallP Try.prog 12 #[v9, (Go.Value.int Go.IntKind.i64 1), (Go.Value.int Go.IntKind.i64 4)] (fun v38 w =>
  LiftP Try.prog (Instr.extract v38 0) (fun v39 w =>
  LiftP Try.prog (Instr.extract v38 1) (fun v40 w =>
  LiftP Try.prog (Instr.alloc 27 true (.tuple #[])) (fun v7 w =>
  LiftU Try.prog (Instr.storeAt 27 v7 v39) (fun v__2 w =>
  LiftP Try.prog (binS Go.BinOp.eql 22 (Go.Operand.tmp 41) (Go.Operand.const (Go.Value.int Go.IntKind.i64 0)) v22 (Go.Value.int Go.IntKind.i64 0)) (fun v42 w =>
  GuardP v42 true (fun K w => LiftP Try.prog (Instr.fieldAt 27 v2 1) K w) (fun v44 w =>
  GuardP v42 true (fun K w => LiftP Try.prog (Instr.loadAt 4 v44) K w) (fun v45 w =>
  PickP v42 v45 (Go.Value.bool false) (fun v46 w =>
  GuardP v46 true (fun K w => K v27 w) (fun v48 w =>
  GuardP v46 true (fun K w => LiftP Try.prog (binS Go.BinOp.eql 22 (Go.Operand.tmp 48) (Go.Operand.const (Go.Value.int Go.IntKind.i64 7)) v48 (Go.Value.int Go.IntKind.i64 7)) K w) (fun v49 w =>
  PickP v46 v49 (Go.Value.bool false) (fun v50 w =>
  GuardP v50 true (fun K w => K v40 w) (fun v52 w =>
  GuardP v50 true (fun K w => LiftP Try.prog (binS Go.BinOp.eql 22 (Go.Operand.tmp 52) (Go.Operand.const (Go.Value.int Go.IntKind.i64 12)) v52 (Go.Value.int Go.IntKind.i64 12)) K w) (fun v53 w =>
  PickP v50 v53 (Go.Value.bool false) (fun v54 w =>
  GuardP v54 true (fun K w => K v9 w) (fun v56 w =>
  GuardP v54 true (fun K w => CallP Try.prog 18 #[v56, (Go.Value.int Go.IntKind.i64 1)] K w) (fun v57 w =>
  GuardP v54 true (fun K w => LiftP Try.prog (binS Go.BinOp.eql 3 (Go.Operand.tmp 57) (Go.Operand.const (Go.Value.int Go.IntKind.i64 5)) v57 (Go.Value.int Go.IntKind.i64 5)) K w) (fun v58 w =>
  PickP v54 v58 (Go.Value.bool false) (fun v59 w =>
  R v59 w) w) w) w) w) w) w) w) w) w) w) w) w) w) w) w) w) w) w) w) w) w) [(Go.Value.int Go.IntKind.i64 6)] w) w) w) w) w) w) w) w) w) w) w) w) w) w) w) w) w) w) w
theorem S8.calls (R : Value → World → Prop) (w : World) (h : S8 R w) : Calls Try.prog 8 #[] w fun e w' => ∃ v, e = .returned v ∧ R v w' :=
  calls_of_tr (n := 60) (c := bodyOf Try.f8) (.two .leaf (.two .leaf (.two (.two .leaf (.two (.two .leaf .leaf) .leaf)) (.two .leaf (.two .leaf (.two (.two .leaf (.one (.loop [6] (.two (.two .leaf (.two .leaf .leaf)) (.two (.one .leaf) .leaf))))) (.two .leaf (.two .leaf .leaf)))))))) Try.func8 (by kernel_rfl) Try.ntmps8 (by kernel_rfl) (by kernel_rfl) [] (by kernel_rfl) (of_eq_ (by kernel_rfl) h)

/-- shelfmark/shelfmarkref03.Light -/
def S9 (a0 a1 : Value) (R : Value → World → Prop) (w : World) : Prop :=
  LoopP (fun J vs w =>   -- [5, 6]
    NextP Try.prog (builtin Go.Builtin.len #[23] 3 #[false] #[a0]) (fun v9 w =>
    LiftP Try.prog (binS Go.BinOp.lss 3 (Go.Operand.tmp 7) (Go.Operand.tmp 9) (vs.tail.headD undef) v9) (fun v10 w =>
    CondP v10 (fun w =>
      LiftP Try.prog (Instr.indexAt 23 a0 (vs.tail.headD undef)) (fun v15 w =>
    LiftP Try.prog (Instr.fieldAt 36 v15 2) (fun v16 w =>
    LiftP Try.prog (Instr.loadAt 9 v16) (fun v17 w =>
    NextP Try.prog (builtin Go.Builtin.len #[9] 3 #[false] #[v17]) (fun v18 w =>
    LiftP Try.prog (binS Go.BinOp.gtr 3 (Go.Operand.tmp 18) (Go.Operand.tmp 19) v18 a1) (fun v20 w =>
    GuardP v20 false (fun K w => K (vs.tail.headD undef) w) (fun v22 w =>
    GuardP v20 false (fun K w => K a1 w) (fun v23 w =>
    GuardP v20 false (fun K w => LiftP Try.prog (binS Go.BinOp.gtr 3 (Go.Operand.tmp 22) (Go.Operand.tmp 23) v22 v23) K w) (fun v24 w =>
    PickP v20 (Go.Value.bool true) v24 (fun v25 w =>
    CondP v25 (fun w =>
      R (Go.Value.bool false) w) (fun w =>
      LiftP Try.prog (Instr.indexAt 23 a0 (vs.tail.headD undef)) (fun v29 w =>
    LiftP Try.prog (Instr.fieldAt 36 v29 2) (fun v30 w =>
    LiftP Try.prog (Instr.loadAt 9 v30) (fun v31 w =>
    NextP Try.prog (builtin Go.Builtin.len #[9] 3 #[false] #[v31]) (fun v32 w =>
    LiftP Try.prog (binS Go.BinOp.add 3 (Go.Operand.tmp 26) (Go.Operand.tmp 32) (vs.headD undef) v32) (fun v33 w =>
    LiftP Try.prog (binS Go.BinOp.gtr 3 (Go.Operand.tmp 34) (Go.Operand.tmp 35) v33 a1) (fun v36 w =>
    CondP v36 (fun w =>
      R (Go.Value.bool false) w) (fun w =>
      LiftP Try.prog (binS Go.BinOp.add 3 (Go.Operand.tmp 11) (Go.Operand.const (Go.Value.int Go.IntKind.i64 1)) (vs.tail.headD undef) (Go.Value.int Go.IntKind.i64 1)) (fun v12 w =>
    J [v33, v12] w) w) w) w) w) w) w) w) w) w) w) w) w) w) w) w) w) w) w) (fun w =>
      R (Go.Value.bool true) w) w) w) w) [(Go.Value.int Go.IntKind.i64 0), (Go.Value.int Go.IntKind.i64 0)] w
theorem S9.calls (a0 a1 : Value) (R : Value → World → Prop) (w : World) (h : S9 a0 a1 R w) : Calls Try.prog 9 #[a0, a1] w fun e w' => ∃ v, e = .returned v ∧ R v w' :=
  calls_of_tr (n := 37) (c := bodyOf Try.f9) (.two .leaf (.two .leaf (.two (.two .leaf (.one (.loop [5, 6] (.two (.two .leaf (.two .leaf .leaf)) (.two (.one (.two (.two .leaf (.two (.two .leaf .leaf) .leaf)) (.two .leaf (.two .leaf (.two (.two .leaf .leaf) .leaf))))) .leaf))))) (.two .leaf .leaf)))) Try.func9 (by kernel_rfl) Try.ntmps9 (by kernel_rfl) (by kernel_rfl) [a0, a1] (by kernel_rfl) (of_eq_ (by kernel_rfl) h)

/-- shelfmark/once.New -/
def S10 (R : Value → World → Prop) (w : World) : Prop :=
  LiftP Try.prog (Instr.makeMap 58 none) (fun v1 w =>
  LiftP Try.prog (Instr.build 60 #[(0, v1)]) (fun v2 w =>
  LiftP Try.prog (Instr.box 60 v2) (fun v3 w =>
  R v3 w) w) w) w
theorem S10.calls (R : Value → World → Prop) (w : World) (h : S10 R w) : Calls Try.prog 10 #[] w fun e w' => ∃ v, e = .returned v ∧ R v w' :=
  calls_of_tr (n := 4) (c := bodyOf Try.f10) (.two .leaf (.two .leaf .leaf)) Try.func10 (by kernel_rfl) Try.ntmps10 (by kernel_rfl) (by kernel_rfl) [] (by kernel_rfl) (of_eq_ (by kernel_rfl) h)

/-- (*shelfmark/once.Table).Keep -/
def S11 (a0 a1 a2 a3 : Value) (R : Value → World → Prop) (w : World) : Prop :=
  LiftP Try.prog (Instr.box 27 a3) (fun v7 w =>
  CallP Try.prog 12 #[a0, a1, a2] (fun v16 w =>
  LiftP Try.prog (Instr.extract v16 0) (fun v17 w =>
  LiftP Try.prog (Instr.extract v16 1) (fun v18 w =>
  LiftP Try.prog (Instr.alloc 27 true (.tuple #[])) (fun v9 w =>
  LiftU Try.prog (Instr.storeAt 27 v9 v17) (fun v_ w =>
  JoinP (fun J w =>
    LiftP Try.prog (binS Go.BinOp.eql 22 (Go.Operand.tmp 20) (Go.Operand.const (Go.Value.int Go.IntKind.i64 1)) v18 (Go.Value.int Go.IntKind.i64 1)) (fun v21 w =>
    CondP v21 (fun w =>
      J [v21] w) (fun w =>
      LiftP Try.prog (Instr.fieldAt 27 v7 3) (fun v22 w =>
      LiftP Try.prog (Instr.loadAt 25 v22) (fun v23 w =>
      NextP Try.prog (builtin Go.Builtin.len #[25] 3 #[false] #[v23]) (fun v24 w =>
      LiftP Try.prog (binS Go.BinOp.gtr 3 (Go.Operand.tmp 24) (Go.Operand.const (Go.Value.int Go.IntKind.i64 0)) v24 (Go.Value.int Go.IntKind.i64 0)) (fun v25 w =>
      CondP v25 (fun w =>
        J [v25] w) (fun w =>
        LiftP Try.prog (Instr.fieldAt 27 v7 0) (fun v26 w =>
        LiftP Try.prog (Instr.loadAt 22 v26) (fun v27 w =>
        CallP Try.prog 24 #[v27, (Go.Value.int Go.IntKind.i64 0)] (fun v28 w =>
        LiftP Try.prog (Op.unary Go.UnOp.not v28) (fun v29 w =>
        CondP v29 (fun w =>
          J [v29] w) (fun w =>
          LiftP Try.prog (Instr.fieldAt 27 v7 4) (fun v30 w =>
          LiftP Try.prog (Instr.loadAt 3 v30) (fun v31 w =>
          CallP Try.prog 24 #[v31, (Go.Value.int Go.IntKind.i64 0)] (fun v32 w =>
          LiftP Try.prog (Op.unary Go.UnOp.not v32) (fun v33 w =>
          CondP v33 (fun w =>
            J [v33] w) (fun w =>
            LiftP Try.prog (Instr.fieldAt 27 v7 2) (fun v34 w =>
            LiftP Try.prog (Instr.loadAt 24 v34) (fun v35 w =>
            NextP Try.prog (builtin Go.Builtin.len #[24] 3 #[false] #[v35]) (fun v36 w =>
            LiftP Try.prog (binS Go.BinOp.gtr 3 (Go.Operand.tmp 36) (Go.Operand.const (Go.Value.int Go.IntKind.i64 0)) v36 (Go.Value.int Go.IntKind.i64 0)) (fun v37 w =>
            GuardP v37 true (fun K w => LiftP Try.prog (Instr.fieldAt 27 v7 2) K w) (fun v39 w =>
            GuardP v37 true (fun K w => LiftP Try.prog (Instr.loadAt 24 v39) K w) (fun v40 w =>
            GuardP v37 true (fun K w => CallP Try.prog 25 #[v40] K w) (fun v41 w =>
            GuardP v37 true (fun K w => LiftP Try.prog (binS Go.BinOp.neq 22 (Go.Operand.tmp 41) (Go.Operand.const (Go.Value.int Go.IntKind.i64 0)) v41 (Go.Value.int Go.IntKind.i64 0)) K w) (fun v42 w =>
            PickP v37 v42 (Go.Value.bool false) (fun v43 w =>
            J [v43] w) w) w) w) w) w) w) w) w) w) w) w) w) w) w) w) w) w) w) w) w) w) w) w) w) w) w) (fun vs w =>   -- [19]
  CondP (vs.headD undef) (fun w =>
    R (Go.Value.int Go.IntKind.i64 1) w) (fun w =>
    LiftP Try.prog (binS Go.BinOp.eql 22 (Go.Operand.tmp 45) (Go.Operand.const (Go.Value.int Go.IntKind.i64 12)) v18 (Go.Value.int Go.IntKind.i64 12)) (fun v46 w =>
    CondP v46 (fun w =>
      R v18 w) (fun w =>
      LiftP Try.prog (binS Go.BinOp.eql 22 (Go.Operand.tmp 49) (Go.Operand.const (Go.Value.int Go.IntKind.i64 0)) v18 (Go.Value.int Go.IntKind.i64 0)) (fun v50 w =>
      CondP v50 (fun w =>
        R (Go.Value.int Go.IntKind.i64 8) w) (fun w =>
        CallP Try.prog 26 #[a0, a1] (fun v53 w =>
  DrawP (fun S w =>
  YieldN Try.prog S (nilChk v53) (fun v55 w =>
  YieldP Try.prog S (Instr.fieldAt 68 v55 1) (fun v56 w =>
  YieldP Try.prog S (Instr.loadAt 66 v56) (fun v57 w =>
  YieldP Try.prog S (Instr.loadAt 27 v7) (fun v59 w =>
  ActP S (fun K w => CallP Try.prog 27 #[v59] K w) (fun S v60 w =>
  LiftU Try.prog (Instr.mapUpdate 66 v57 a2 v60) (fun v__1 w =>
  CallP Try.prog 28 #[v53] (fun v62 w =>
  R (Go.Value.int Go.IntKind.i64 0) w) w) w) w) w) w) w) w) w) w) w) w) w) w) w) w) w) w) w) w) w) w
theorem S11.calls (a0 a1 a2 a3 : Value) (R : Value → World → Prop) (w : World) (h : S11 a0 a1 a2 a3 R w) : Calls Try.prog 11 #[a0, a1, a2, a3] w fun e w' => ∃ v, e = .returned v ∧ R v w' :=
  calls_of_tr (n := 63) (c := bodyOf Try.f11) (.two .leaf (.two .leaf (.two (.one (.join [19] (.two .leaf (.two .leaf (.two .leaf (.two .leaf (.two .leaf (.two .leaf (.two .leaf (.two .leaf .leaf)))))))) (.two (.two .leaf .leaf) (.two .leaf (.two (.two .leaf .leaf) (.two .leaf (.two (.two .leaf .leaf) .leaf))))))) (.two .leaf (.two (.drawL [(true, 0), (true, 1), (true, 2), (true, 3), (true, 4), (true, 5), (false, 6)] 7) (.two .leaf (.two .leaf .leaf))))))) Try.func11 (by kernel_rfl) Try.ntmps11 (by kernel_rfl) (by kernel_rfl) [a0, a1, a2, a3] (by kernel_rfl) (of_eq_ (by kernel_rfl) h)

/-- (*shelfmark/once.Table).Look -/
def S12 (a0 a1 a2 : Value) (R : Value → World → Prop) (w : World) : Prop :=
  LiftP Try.prog (Instr.alloc 27 true (.tuple #[])) (fun v6 w =>
  CallP Try.prog 24 #[a1, (Go.Value.int Go.IntKind.i64 0)] (fun v12 w =>
  LiftP Try.prog (Op.unary Go.UnOp.not v12) (fun v13 w =>
  GuardP v13 false (fun K w => K a2 w) (fun v15 w =>
  GuardP v13 false (fun K w => CallP Try.prog 24 #[v15, (Go.Value.int Go.IntKind.i64 1)] K w) (fun v16 w =>
  GuardP v13 false (fun K w => LiftP Try.prog (Op.unary Go.UnOp.not v16) K w) (fun v17 w =>
  PickP v13 (Go.Value.bool true) v17 (fun v18 w =>
  CondP v18 (fun w =>
    LiftP Try.prog (Instr.build 27 #[]) (fun v19 w =>
    LiftU Try.prog (Instr.storeAt 27 v6 v19) (fun v_ w =>
    RetC Try.prog v6 27 (fun x => R (.tuple #[x, (Go.Value.int Go.IntKind.i64 1)]) w) w) w) w) (fun w =>
    JoinP (fun J w =>
    NextP Try.prog (nilChk a0) (fun v21 w =>
    LiftP Try.prog (Instr.fieldAt 60 v21 0) (fun v22 w =>
    LiftP Try.prog (Instr.loadAt 58 v22) (fun v23 w =>
    LiftP Try.prog (Instr.lookup 58 v23 a1 false) (fun v25 w =>
    LiftP Try.prog (binS Go.BinOp.neq 63 (Go.Operand.tmp 26) (Go.Operand.const (Go.Value.pointer none)) v25 (Go.Value.pointer none)) (fun v27 w =>
    CondP v27 (fun w =>
      NextP Try.prog (nilChk v25) (fun v30 w =>
      LiftP Try.prog (Instr.fieldAt 68 v30 0) (fun v31 w =>
      LiftP Try.prog (Instr.loadAt 3 v31) (fun v32 w =>
      LiftP Try.prog (binS Go.BinOp.leq 3 (Go.Operand.tmp 28) (Go.Operand.tmp 32) a2 v32) (fun v33 w =>
      CondP v33 (fun w =>
        LiftP Try.prog (Instr.build 27 #[]) (fun v34 w =>
        LiftU Try.prog (Instr.storeAt 27 v6 v34) (fun v__1 w =>
        RetC Try.prog v6 27 (fun x_1 => R (.tuple #[x_1, (Go.Value.int Go.IntKind.i64 12)]) w) w) w) w) (fun w =>
        NextP Try.prog (nilChk v25) (fun v37 w =>
      LiftP Try.prog (Instr.fieldAt 68 v37 1) (fun v38 w =>
      LiftP Try.prog (Instr.loadAt 66 v38) (fun v39 w =>
      LiftP Try.prog (Instr.lookup 66 v39 a2 true) (fun v41 w =>
      LiftP Try.prog (Instr.extract v41 0) (fun v42 w =>
      LiftP Try.prog (Instr.extract v41 1) (fun v43 w =>
      LiftP Try.prog (Instr.alloc 27 true (.tuple #[])) (fun v9 w =>
      LiftU Try.prog (Instr.storeAt 27 v9 v42) (fun v__2 w =>
      CondP v43 (fun w =>
        LiftP Try.prog (Instr.loadAt 27 v9) (fun v45 w =>
        CallP Try.prog 27 #[v45] (fun v46 w =>
        LiftU Try.prog (Instr.storeAt 27 v6 v46) (fun v__3 w =>
        RetC Try.prog v6 27 (fun x_2 => R (.tuple #[x_2, (Go.Value.int Go.IntKind.i64 0)]) w) w) w) w) w) (fun w =>
        J [] w) w) w) w) w) w) w) w) w) w) w) w) w) w) w) (fun w =>
      J [] w) w) w) w) w) w) w) (fun vs w =>   -- []
  LiftP Try.prog (Instr.build 27 #[]) (fun v47 w =>
  LiftU Try.prog (Instr.storeAt 27 v6 v47) (fun v__4 w =>
  RetC Try.prog v6 27 (fun x_3 => R (.tuple #[x_3, (Go.Value.int Go.IntKind.i64 7)]) w) w) w) w) w) w) w) w) w) w) w) w) w
theorem S12.calls (a0 a1 a2 : Value) (R : Value → World → Prop) (w : World) (h : S12 a0 a1 a2 R w) : Calls Try.prog 12 #[a0, a1, a2] w fun e w' => ∃ v, e = .returned v ∧ R v w' :=
  calls_of_tr (n := 48) (c := bodyOf Try.f12) (.two .leaf (.two (.two .leaf (.two (.two .leaf .leaf) .leaf)) (.join [] (.two .leaf (.two .leaf (.two (.two (.two .leaf (.two (.two .leaf .leaf) .leaf)) (.two .leaf (.two .leaf (.two (.two .leaf .leaf) .leaf)))) .leaf))) (.two .leaf .leaf)))) Try.func12 (by kernel_rfl) Try.ntmps12 (by kernel_rfl) (by kernel_rfl) [a0, a1, a2] (by kernel_rfl) (of_eq_ (by kernel_rfl) h)

/-- shelfmark/shelfmarkref05.SameReply -/
def S13 (a0 a1 : Value) (R : Value → World → Prop) (w : World) : Prop :=
  LiftP Try.prog (Instr.box 27 a0) (fun v2 w =>
  LiftP Try.prog (Instr.box 27 a1) (fun v3 w =>
  LiftP Try.prog (Instr.fieldAt 27 v2 0) (fun v5 w =>
  LiftP Try.prog (Instr.loadAt 22 v5) (fun v6 w =>
  LiftP Try.prog (Instr.fieldAt 27 v3 0) (fun v7 w =>
  LiftP Try.prog (Instr.loadAt 22 v7) (fun v8 w =>
  LiftP Try.prog (binS Go.BinOp.eql 22 (Go.Operand.tmp 6) (Go.Operand.tmp 8) v6 v8) (fun v9 w =>
  GuardP v9 true (fun K w => LiftP Try.prog (Instr.fieldAt 27 v2 1) K w) (fun v11 w =>
  GuardP v9 true (fun K w => LiftP Try.prog (Instr.loadAt 4 v11) K w) (fun v12 w =>
  GuardP v9 true (fun K w => LiftP Try.prog (Instr.fieldAt 27 v3 1) K w) (fun v13 w =>
  GuardP v9 true (fun K w => LiftP Try.prog (Instr.loadAt 4 v13) K w) (fun v14 w =>
  GuardP v9 true (fun K w => LiftP Try.prog (binS Go.BinOp.eql 4 (Go.Operand.tmp 12) (Go.Operand.tmp 14) v12 v14) K w) (fun v15 w =>
  PickP v9 v15 (Go.Value.bool false) (fun v16 w =>
  GuardP v16 true (fun K w => LiftP Try.prog (Instr.fieldAt 27 v2 4) K w) (fun v18 w =>
  GuardP v16 true (fun K w => LiftP Try.prog (Instr.loadAt 3 v18) K w) (fun v19 w =>
  GuardP v16 true (fun K w => LiftP Try.prog (Instr.fieldAt 27 v3 4) K w) (fun v20 w =>
  GuardP v16 true (fun K w => LiftP Try.prog (Instr.loadAt 3 v20) K w) (fun v21 w =>
  GuardP v16 true (fun K w => LiftP Try.prog (binS Go.BinOp.eql 3 (Go.Operand.tmp 19) (Go.Operand.tmp 21) v19 v21) K w) (fun v22 w =>
  PickP v16 v22 (Go.Value.bool false) (fun v23 w =>
  GuardP v23 true (fun K w => LiftP Try.prog (Instr.fieldAt 27 v2 2) K w) (fun v25 w =>
  GuardP v23 true (fun K w => LiftP Try.prog (Instr.loadAt 24 v25) K w) (fun v26 w =>
  GuardP v23 true (fun K w => LiftP Try.prog (Instr.fieldAt 27 v3 2) K w) (fun v27 w =>
  GuardP v23 true (fun K w => LiftP Try.prog (Instr.loadAt 24 v27) K w) (fun v28 w =>
  GuardP v23 true (fun K w => CallP Try.prog 29 #[v26, v28] K w) (fun v29 w =>
  PickP v23 v29 (Go.Value.bool false) (fun v30 w =>
  GuardP v30 true (fun K w => LiftP Try.prog (Instr.fieldAt 27 v2 3) K w) (fun v32 w =>
  GuardP v30 true (fun K w => LiftP Try.prog (Instr.loadAt 25 v32) K w) (fun v33 w =>
  GuardP v30 true (fun K w => LiftP Try.prog (Instr.fieldAt 27 v3 3) K w) (fun v34 w =>
  GuardP v30 true (fun K w => LiftP Try.prog (Instr.loadAt 25 v34) K w) (fun v35 w =>
  GuardP v30 true (fun K w => CallP Try.prog 30 #[v33, v35] K w) (fun v36 w =>
  PickP v30 v36 (Go.Value.bool false) (fun v37 w =>
  R v37 w) w) w) w) w) w) w) w) w) w) w) w) w) w) w) w) w) w) w) w) w) w) w) w) w) w) w) w) w) w) w) w
theorem S13.calls (a0 a1 : Value) (R : Value → World → Prop) (w : World) (h : S13 a0 a1 R w) : Calls Try.prog 13 #[a0, a1] w fun e w' => ∃ v, e = .returned v ∧ R v w' :=
  calls_of_tr (n := 38) (c := bodyOf Try.f13) (.two .leaf (.two .leaf .leaf)) Try.func13 (by kernel_rfl) Try.ntmps13 (by kernel_rfl) (by kernel_rfl) [a0, a1] (by kernel_rfl) (of_eq_ (by kernel_rfl) h)

/-- (*shelfmark/once.Table).Floor -/
def S18 (a0 a1 : Value) (R : Value → World → Prop) (w : World) : Prop :=
  NextP Try.prog (nilChk a0) (fun v7 w =>
  LiftP Try.prog (Instr.fieldAt 60 v7 0) (fun v8 w =>
  LiftP Try.prog (Instr.loadAt 58 v8) (fun v9 w =>
  LiftP Try.prog (Instr.lookup 58 v9 a1 false) (fun v11 w =>
  LiftP Try.prog (binS Go.BinOp.neq 63 (Go.Operand.tmp 12) (Go.Operand.const (Go.Value.pointer none)) v11 (Go.Value.pointer none)) (fun v13 w =>
  CondP v13 (fun w =>
    NextP Try.prog (nilChk v11) (fun v15 w =>
    LiftP Try.prog (Instr.fieldAt 68 v15 0) (fun v16 w =>
    LiftP Try.prog (Instr.loadAt 3 v16) (fun v17 w =>
    R v17 w) w) w) w) (fun w =>
    R (Go.Value.int Go.IntKind.i64 0) w) w) w) w) w) w) w
theorem S18.calls (a0 a1 : Value) (R : Value → World → Prop) (w : World) (h : S18 a0 a1 R w) : Calls Try.prog 18 #[a0, a1] w fun e w' => ∃ v, e = .returned v ∧ R v w' :=
  calls_of_tr (n := 18) (c := bodyOf Try.f18) (.two .leaf (.two (.two .leaf (.two .leaf (.two (.two .leaf .leaf) .leaf))) (.two .leaf .leaf))) Try.func18 (by kernel_rfl) Try.ntmps18 (by kernel_rfl) (by kernel_rfl) [a0, a1] (by kernel_rfl) (of_eq_ (by kernel_rfl) h)

/-- shelfmark/once.within -/
def S24 (a0 a1 : Value) (R : Value → World → Prop) (w : World) : Prop :=
  LiftP Try.prog (binS Go.BinOp.geq 3 (Go.Operand.tmp 5) (Go.Operand.tmp 6) a0 a1) (fun v7 w =>
  GuardP v7 true (fun K w => K a0 w) (fun v9 w =>
  GuardP v7 true (fun K w => LiftP Try.prog (binS Go.BinOp.leq 3 (Go.Operand.tmp 9) (Go.Operand.const (Go.Value.int Go.IntKind.i64 1099511627776)) v9 (Go.Value.int Go.IntKind.i64 1099511627776)) K w) (fun v10 w =>
  PickP v7 v10 (Go.Value.bool false) (fun v11 w =>
  R v11 w) w) w) w) w
theorem S24.calls (a0 a1 : Value) (R : Value → World → Prop) (w : World) (h : S24 a0 a1 R w) : Calls Try.prog 24 #[a0, a1] w fun e w' => ∃ v, e = .returned v ∧ R v w' :=
  calls_of_tr (n := 12) (c := bodyOf Try.f24) (.two .leaf (.two .leaf .leaf)) Try.func24 (by kernel_rfl) Try.ntmps24 (by kernel_rfl) (by kernel_rfl) [a0, a1] (by kernel_rfl) (of_eq_ (by kernel_rfl) h)

/-- shelfmark/record.Check -/
def S25 (a0 : Value) (R : Value → World → Prop) (w : World) : Prop :=
  NextP Try.prog (builtin Go.Builtin.len #[24] 3 #[false] #[a0]) (fun v4 w =>
  LiftP Try.prog (binS Go.BinOp.eql 3 (Go.Operand.tmp 4) (Go.Operand.const (Go.Value.int Go.IntKind.i64 0)) v4 (Go.Value.int Go.IntKind.i64 0)) (fun v5 w =>
  CallP Try.prog 41 #[v5, (Go.Value.int Go.IntKind.i64 1)] (fun v6 w =>
  NextP Try.prog (builtin Go.Builtin.len #[24] 3 #[false] #[a0]) (fun v8 w =>
  LiftP Try.prog (binS Go.BinOp.gtr 3 (Go.Operand.tmp 8) (Go.Operand.const (Go.Value.int Go.IntKind.i64 4)) v8 (Go.Value.int Go.IntKind.i64 4)) (fun v9 w =>
  CallP Try.prog 41 #[v9, (Go.Value.int Go.IntKind.i64 4)] (fun v10 w =>
  CallP Try.prog 42 #[a0, (.func (.func 43) #[] #[])] (fun v12 w =>
  CallP Try.prog 41 #[v12, (Go.Value.int Go.IntKind.i64 1)] (fun v13 w =>
  LiftP Try.prog (Instr.buildSlice 97 3 #[(0, v6), (1, v10), (2, v13)]) (fun v14 w =>
  CallP Try.prog 40 #[v14] (fun v15 w =>
  R v15 w) w) w) w) w) w) w) w) w) w) w
theorem S25.calls (a0 : Value) (R : Value → World → Prop) (w : World) (h : S25 a0 R w) : Calls Try.prog 25 #[a0] w fun e w' => ∃ v, e = .returned v ∧ R v w' :=
  calls_of_tr (n := 16) (c := bodyOf Try.f25) (.two .leaf (.two .leaf .leaf)) Try.func25 (by kernel_rfl) Try.ntmps25 (by kernel_rfl) (by kernel_rfl) [a0] (by kernel_rfl) (of_eq_ (by kernel_rfl) h)

/-- (*shelfmark/once.Table).client -/
def S26 (a0 a1 : Value) (R : Value → World → Prop) (w : World) : Prop :=
  JoinP (fun J w =>
    NextP Try.prog (nilChk a0) (fun v6 w =>
    LiftP Try.prog (Instr.fieldAt 60 v6 0) (fun v7 w =>
    LiftP Try.prog (Instr.loadAt 58 v7) (fun v8 w =>
    LiftP Try.prog (Instr.lookup 58 v8 a1 false) (fun v10 w =>
    LiftP Try.prog (binS Go.BinOp.eql 63 (Go.Operand.tmp 10) (Go.Operand.const (Go.Value.pointer none)) v10 (Go.Value.pointer none)) (fun v11 w =>
    CondP v11 (fun w =>
      NextP Try.prog (nilChk a0) (fun v13 w =>
      LiftP Try.prog (Instr.fieldAt 60 v13 0) (fun v14 w =>
      LiftP Try.prog (Instr.loadAt 58 v14) (fun v15 w =>
      LiftP Try.prog (Instr.makeMap 66 none) (fun v17 w =>
      LiftP Try.prog (Instr.build 68 #[(1, v17)]) (fun v18 w =>
      LiftP Try.prog (Instr.box 68 v18) (fun v19 w =>
      LiftU Try.prog (Instr.mapUpdate 58 v15 a1 v19) (fun v_ w =>
      J [] w) w) w) w) w) w) w) w) (fun w =>
      J [] w) w) w) w) w) w) w) (fun vs w =>   -- []
  NextP Try.prog (nilChk a0) (fun v21 w =>
  LiftP Try.prog (Instr.fieldAt 60 v21 0) (fun v22 w =>
  LiftP Try.prog (Instr.loadAt 58 v22) (fun v23 w =>
  LiftP Try.prog (Instr.lookup 58 v23 a1 false) (fun v25 w =>
  R v25 w) w) w) w) w) w
theorem S26.calls (a0 a1 : Value) (R : Value → World → Prop) (w : World) (h : S26 a0 a1 R w) : Calls Try.prog 26 #[a0, a1] w fun e w' => ∃ v, e = .returned v ∧ R v w' :=
  calls_of_tr (n := 26) (c := bodyOf Try.f26) (.two .leaf (.join [] (.two .leaf (.two .leaf .leaf)) (.two .leaf .leaf))) Try.func26 (by kernel_rfl) Try.ntmps26 (by kernel_rfl) (by kernel_rfl) [a0, a1] (by kernel_rfl) (of_eq_ (by kernel_rfl) h)

/-- shelfmark/once.copied -/
def S27 (a0 : Value) (R : Value → World → Prop) (w : World) : Prop :=
  LiftP Try.prog (Instr.box 27 a0) (fun v1 w =>
  LiftP Try.prog (Instr.alloc 27 true (.tuple #[])) (fun v2 w =>
  LiftP Try.prog (Instr.fieldAt 27 v1 2) (fun v3 w =>
  LiftP Try.prog (Instr.loadAt 24 v3) (fun v4 w =>
  CallP Try.prog 45 #[v4] (fun v5 w =>
  CallP Try.prog 44 #[v5] (fun v6 w =>
  LiftP Try.prog (Instr.fieldAt 27 v1 2) (fun v7 w =>
  LiftU Try.prog (Instr.storeAt 24 v7 v6) (fun v_ w =>
  LiftP Try.prog (Instr.fieldAt 27 v1 3) (fun v8 w =>
  LiftU Try.prog (Instr.storeAt 25 v8 (Go.Value.slice none 0 0)) (fun v__1 w =>
  LiftP Try.prog (Instr.loadAt 27 v1) (fun v9 w =>
  LiftU Try.prog (Instr.storeAt 27 v2 v9) (fun v__2 w =>
  RetC Try.prog v2 27 (fun x => R x w) w) w) w) w) w) w) w) w) w) w) w) w) w
theorem S27.calls (a0 : Value) (R : Value → World → Prop) (w : World) (h : S27 a0 R w) : Calls Try.prog 27 #[a0] w fun e w' => ∃ v, e = .returned v ∧ R v w' :=
  calls_of_tr (n := 10) (c := bodyOf Try.f27) (.two .leaf (.two .leaf (.two .leaf (.two .leaf .leaf)))) Try.func27 (by kernel_rfl) Try.ntmps27 (by kernel_rfl) (by kernel_rfl) [a0] (by kernel_rfl) (of_eq_ (by kernel_rfl) h)

/-- (*shelfmark/once.client).trim -/
def S28 (a0 : Value) (R : Value → World → Prop) (w : World) : Prop :=
  LiftP Try.prog (Instr.box 63 a0) (fun v1 w =>
  LiftP Try.prog (Instr.loadAt 63 v1) (fun v2 w =>
  NextP Try.prog (nilChk v2) (fun v3 w =>
  LiftP Try.prog (Instr.fieldAt 68 v3 1) (fun v4 w =>
  LiftP Try.prog (Instr.loadAt 66 v4) (fun v5 w =>
  LiftP Try.prog (Instr.makeFunc (Go.Fn.func 47) #[] #[v1]) (fun v6 w =>
  CallP Try.prog 46 #[v5, v6] (fun v7 w =>
  LoopP (fun J vs w =>   -- []
    LiftP Try.prog (Instr.loadAt 63 v1) (fun v8 w =>
    NextP Try.prog (nilChk v8) (fun v9 w =>
    LiftP Try.prog (Instr.fieldAt 68 v9 1) (fun v10 w =>
    LiftP Try.prog (Instr.loadAt 66 v10) (fun v11 w =>
    NextP Try.prog (builtin Go.Builtin.len #[66] 3 #[false] #[v11]) (fun v12 w =>
    LiftP Try.prog (binS Go.BinOp.gtr 3 (Go.Operand.tmp 12) (Go.Operand.const (Go.Value.int Go.IntKind.i64 4)) v12 (Go.Value.int Go.IntKind.i64 4)) (fun v13 w =>
    CondP v13 (fun w =>
      DrawP (fun S w =>
    YieldP Try.prog S (Instr.loadAt 63 v1) (fun v14 w =>
    YieldP Try.prog S (Instr.loadAt 63 v1) (fun v15 w =>
    YieldN Try.prog S (nilChk v15) (fun v16 w =>
    YieldP Try.prog S (Instr.fieldAt 68 v16 1) (fun v17 w =>
    YieldP Try.prog S (Instr.loadAt 66 v17) (fun v18 w =>
    ActP S (fun K w => CallP Try.prog 37 #[v18] K w) (fun S v19 w =>
    ActP S (fun K w => CallP Try.prog 49 #[v19] K w) (fun S v20 w =>
    ActP S (fun K w => CallP Try.prog 48 #[v20] K w) (fun S v21 w =>
    YieldN Try.prog S (nilChk v14) (fun v22 w =>
    YieldP Try.prog S (Instr.fieldAt 68 v22 0) (fun v23 w =>
    LiftU Try.prog (Instr.storeAt 3 v23 v21) (fun v_ w =>
    DrawP (fun S w =>
    YieldP Try.prog S (Instr.loadAt 63 v1) (fun v24 w =>
    YieldN Try.prog S (nilChk v24) (fun v25 w =>
    YieldP Try.prog S (Instr.fieldAt 68 v25 1) (fun v26 w =>
    YieldP Try.prog S (Instr.loadAt 66 v26) (fun v27 w =>
    YieldP Try.prog S (Instr.loadAt 63 v1) (fun v28 w =>
    YieldN Try.prog S (nilChk v28) (fun v29 w =>
    YieldP Try.prog S (Instr.fieldAt 68 v29 0) (fun v30 w =>
    YieldP Try.prog S (Instr.loadAt 3 v30) (fun v31 w =>
    NextP Try.prog (builtin Go.Builtin.delete #[66, 3] 0 #[false, false] #[v27, v31]) (fun v__1 w =>
    J [] w) w) w) w) w) w) w) w) w) w) w) w) w) w) w) w) w) w) w) w) w) w) w) (fun w =>
      R (.tuple #[]) w) w) w) w) w) w) w) w) [] w) w) w) w) w) w) w) w
theorem S28.calls (a0 : Value) (R : Value → World → Prop) (w : World) (h : S28 a0 R w) : Calls Try.prog 28 #[a0] w fun e w' => ∃ v, e = .returned v ∧ R v w' :=
  calls_of_tr (n := 32) (c := bodyOf Try.f28) (.two .leaf (.two .leaf (.one (.loop [] (.two (.two .leaf (.two .leaf .leaf)) (.one (.two (.drawL [(true, 0), (true, 1), (true, 2), (true, 3), (true, 4), (false, 5), (false, 6), (false, 7), (true, 8), (true, 9)] 10) (.drawL [(true, 0), (true, 1), (true, 2), (true, 3), (true, 4), (true, 5), (true, 6), (true, 7)] 8)))))))) Try.func28 (by kernel_rfl) Try.ntmps28 (by kernel_rfl) (by kernel_rfl) [a0] (by kernel_rfl) (of_eq_ (by kernel_rfl) h)

/-- shelfmark/shelfmarkref03.Same -/
def S29 (a0 a1 : Value) (R : Value → World → Prop) (w : World) : Prop :=
  NextP Try.prog (builtin Go.Builtin.len #[23] 3 #[false] #[a0]) (fun v7 w =>
  NextP Try.prog (builtin Go.Builtin.len #[23] 3 #[false] #[a1]) (fun v9 w =>
  LiftP Try.prog (binS Go.BinOp.neq 3 (Go.Operand.tmp 7) (Go.Operand.tmp 9) v7 v9) (fun v10 w =>
  CondP v10 (fun w =>
    R (Go.Value.bool false) w) (fun w =>
    LoopP (fun J vs w =>   -- [5]
    NextP Try.prog (builtin Go.Builtin.len #[23] 3 #[false] #[a0]) (fun v13 w =>
    LiftP Try.prog (binS Go.BinOp.lss 3 (Go.Operand.tmp 11) (Go.Operand.tmp 13) (vs.headD undef) v13) (fun v14 w =>
    CondP v14 (fun w =>
      DrawP (fun S w =>
    YieldP Try.prog S (Instr.indexAt 23 a0 (vs.headD undef)) (fun v19 w =>
    YieldP Try.prog S (Instr.loadAt 36 v19) (fun v20 w =>
    YieldP Try.prog S (Instr.indexAt 23 a1 (vs.headD undef)) (fun v23 w =>
    YieldP Try.prog S (Instr.loadAt 36 v23) (fun v24 w =>
    YieldP Try.prog S (binS Go.BinOp.neq 36 (Go.Operand.tmp 20) (Go.Operand.tmp 24) v20 v24) (fun v25 w =>
    CondP v25 (fun w =>
      R (Go.Value.bool false) w) (fun w =>
      LiftP Try.prog (binS Go.BinOp.add 3 (Go.Operand.tmp 15) (Go.Operand.const (Go.Value.int Go.IntKind.i64 1)) (vs.headD undef) (Go.Value.int Go.IntKind.i64 1)) (fun v16 w =>
    J [v16] w) w) w) w) w) w) w) w) w) (fun w =>
      R (Go.Value.bool true) w) w) w) w) [(Go.Value.int Go.IntKind.i64 0)] w) w) w) w) w
theorem S29.calls (a0 a1 : Value) (R : Value → World → Prop) (w : World) (h : S29 a0 a1 R w) : Calls Try.prog 29 #[a0, a1] w fun e w' => ∃ v, e = .returned v ∧ R v w' :=
  calls_of_tr (n := 26) (c := bodyOf Try.f29) (.two .leaf (.two (.two .leaf (.two (.two .leaf .leaf) .leaf)) (.two (.two .leaf (.one (.loop [5] (.two (.two .leaf (.two .leaf .leaf)) (.two (.one (.two (.draw [(true, 0), (true, 1), (true, 2), (true, 3), (true, 4), (true, 5), (true, 6), (true, 7), (true, 8)]) (.two (.two .leaf .leaf) .leaf))) .leaf))))) (.two .leaf .leaf)))) Try.func29 (by kernel_rfl) Try.ntmps29 (by kernel_rfl) (by kernel_rfl) [a0, a1] (by kernel_rfl) (of_eq_ (by kernel_rfl) h)

/-- shelfmark/shelfmarkref05.SameRows -/
def S30 (a0 a1 : Value) (R : Value → World → Prop) (w : World) : Prop :=
  NextP Try.prog (builtin Go.Builtin.len #[25] 3 #[false] #[a0]) (fun v7 w =>
  NextP Try.prog (builtin Go.Builtin.len #[25] 3 #[false] #[a1]) (fun v9 w =>
  LiftP Try.prog (binS Go.BinOp.neq 3 (Go.Operand.tmp 7) (Go.Operand.tmp 9) v7 v9) (fun v10 w =>
  CondP v10 (fun w =>
    R (Go.Value.bool false) w) (fun w =>
    LoopP (fun J vs w =>   -- [5]
    NextP Try.prog (builtin Go.Builtin.len #[25] 3 #[false] #[a0]) (fun v13 w =>
    LiftP Try.prog (binS Go.BinOp.lss 3 (Go.Operand.tmp 11) (Go.Operand.tmp 13) (vs.headD undef) v13) (fun v14 w =>
    CondP v14 (fun w =>
      DrawP (fun S w =>
    YieldP Try.prog S (Instr.indexAt 25 a0 (vs.headD undef)) (fun v19 w =>
    YieldP Try.prog S (Instr.fieldAt 94 v19 0) (fun v20 w =>
    YieldP Try.prog S (Instr.loadAt 9 v20) (fun v21 w =>
    YieldP Try.prog S (Instr.indexAt 25 a1 (vs.headD undef)) (fun v24 w =>
    YieldP Try.prog S (Instr.fieldAt 94 v24 0) (fun v25 w =>
    YieldP Try.prog S (Instr.loadAt 9 v25) (fun v26 w =>
    YieldP Try.prog S (binS Go.BinOp.neq 9 (Go.Operand.tmp 21) (Go.Operand.tmp 26) v21 v26) (fun v27 w =>
    GuardP v27 false (fun K w => K a0 w) (fun v29 w =>
    GuardP v27 false (fun K w => K (vs.headD undef) w) (fun v30 w =>
    GuardP v27 false (fun K w => YieldP Try.prog S (Instr.indexAt 25 v29 v30) K w) (fun v31 w =>
    GuardP v27 false (fun K w => YieldP Try.prog S (Instr.fieldAt 94 v31 1) K w) (fun v32 w =>
    GuardP v27 false (fun K w => YieldP Try.prog S (Instr.loadAt 24 v32) K w) (fun v33 w =>
    GuardP v27 false (fun K w => K a1 w) (fun v34 w =>
    GuardP v27 false (fun K w => K (vs.headD undef) w) (fun v35 w =>
    GuardP v27 false (fun K w => YieldP Try.prog S (Instr.indexAt 25 v34 v35) K w) (fun v36 w =>
    GuardP v27 false (fun K w => YieldP Try.prog S (Instr.fieldAt 94 v36 1) K w) (fun v37 w =>
    GuardP v27 false (fun K w => YieldP Try.prog S (Instr.loadAt 24 v37) K w) (fun v38 w =>
    GuardA v27 false S (fun K w => CallP Try.prog 29 #[v33, v38] K w) (fun S v39 w =>
    GuardP v27 false (fun K w => YieldP Try.prog S (Op.unary Go.UnOp.not v39) K w) (fun v40 w =>
    PickP v27 (Go.Value.bool true) v40 (fun v41 w =>
    CondP v41 (fun w =>
      R (Go.Value.bool false) w) (fun w =>
      LiftP Try.prog (binS Go.BinOp.add 3 (Go.Operand.tmp 15) (Go.Operand.const (Go.Value.int Go.IntKind.i64 1)) (vs.headD undef) (Go.Value.int Go.IntKind.i64 1)) (fun v16 w =>
    J [v16] w) w) w) w) w) w) w) w) w) w) w) w) w) w) w) w) w) w) w) w) w) w) w) w) (fun w =>
      R (Go.Value.bool true) w) w) w) w) [(Go.Value.int Go.IntKind.i64 0)] w) w) w) w) w
theorem S30.calls (a0 a1 : Value) (R : Value → World → Prop) (w : World) (h : S30 a0 a1 R w) : Calls Try.prog 30 #[a0, a1] w fun e w' => ∃ v, e = .returned v ∧ R v w' :=
  calls_of_tr (n := 42) (c := bodyOf Try.f30) (.two .leaf (.two (.two .leaf (.two (.two .leaf .leaf) .leaf)) (.two (.two .leaf (.one (.loop [5] (.two (.two .leaf (.two .leaf .leaf)) (.two (.one (.two (.draw [(true, 0), (true, 1), (true, 2), (true, 3), (true, 4), (true, 5), (true, 6), (true, 7), (true, 8), (true, 9), (true, 10), (true, 11), (true, 12), (true, 13), (true, 14), (true, 15), (true, 16), (true, 17), (true, 18), (true, 19), (true, 20), (true, 21), (false, 22), (true, 23), (true, 24)]) (.two (.two .leaf .leaf) .leaf))) .leaf))))) (.two .leaf .leaf)))) Try.func30 (by kernel_rfl) Try.ntmps30 (by kernel_rfl) (by kernel_rfl) [a0, a1] (by kernel_rfl) (of_eq_ (by kernel_rfl) h)

/-- shelfmark/record.first -/
def S40 (a0 : Value) (R : Value → World → Prop) (w : World) : Prop :=
  NextP Try.prog (builtin Go.Builtin.len #[97] 3 #[false] #[a0]) (fun v6 w =>
  LoopP (fun J vs w =>   -- [7]
    LiftP Try.prog (binS Go.BinOp.lss 3 (Go.Operand.tmp 7) (Go.Operand.tmp 6) (vs.headD undef) v6) (fun v8 w =>
    CondP v8 (fun w =>
      LiftP Try.prog (Instr.indexAt 97 a0 (vs.headD undef)) (fun v9 w =>
    LiftP Try.prog (Instr.loadAt 22 v9) (fun v10 w =>
    LiftP Try.prog (binS Go.BinOp.neq 22 (Go.Operand.tmp 11) (Go.Operand.const (Go.Value.int Go.IntKind.i64 0)) v10 (Go.Value.int Go.IntKind.i64 0)) (fun v12 w =>
    CondP v12 (fun w =>
      R v10 w) (fun w =>
      LiftP Try.prog (binS Go.BinOp.add 3 (Go.Operand.tmp 7) (Go.Operand.const (Go.Value.int Go.IntKind.i64 1)) (vs.headD undef) (Go.Value.int Go.IntKind.i64 1)) (fun v14 w =>
    J [v14] w) w) w) w) w) w) (fun w =>
      R (Go.Value.int Go.IntKind.i64 0) w) w) w) [(Go.Value.int Go.IntKind.i64 0)] w) w
theorem S40.calls (a0 : Value) (R : Value → World → Prop) (w : World) (h : S40 a0 R w) : Calls Try.prog 40 #[a0] w fun e w' => ∃ v, e = .returned v ∧ R v w' :=
  calls_of_tr (n := 15) (c := bodyOf Try.f40) (.two .leaf (.two (.two .leaf (.one (.loop [7] (.two .leaf (.two (.two .leaf .leaf) (.two (.one (.two .leaf (.two .leaf (.two (.two .leaf .leaf) .leaf)))) .leaf)))))) (.two .leaf .leaf))) Try.func40 (by kernel_rfl) Try.ntmps40 (by kernel_rfl) (by kernel_rfl) [a0] (by kernel_rfl) (of_eq_ (by kernel_rfl) h)

/-- shelfmark/record.when -/
def S41 (a0 a1 : Value) (R : Value → World → Prop) (w : World) : Prop :=
  CondP a0 (fun w =>
    R a1 w) (fun w =>
    R (Go.Value.int Go.IntKind.i64 0) w) w
theorem S41.calls (a0 a1 : Value) (R : Value → World → Prop) (w : World) (h : S41 a0 a1 R w) : Calls Try.prog 41 #[a0, a1] w fun e w' => ∃ v, e = .returned v ∧ R v w' :=
  calls_of_tr (n := 7) (c := bodyOf Try.f41) (.two .leaf (.two (.two .leaf (.two (.two .leaf .leaf) .leaf)) (.two .leaf .leaf))) Try.func41 (by kernel_rfl) Try.ntmps41 (by kernel_rfl) (by kernel_rfl) [a0, a1] (by kernel_rfl) (of_eq_ (by kernel_rfl) h)

/-- slices.ContainsFunc[shelfmark/api.Record,shelfmark/api.Val] -/
def S42 (a0 a1 : Value) (R : Value → World → Prop) (w : World) : Prop :=
  CallP Try.prog 53 #[a0, a1] (fun v7 w =>
  LiftP Try.prog (binS Go.BinOp.geq 3 (Go.Operand.tmp 7) (Go.Operand.const (Go.Value.int Go.IntKind.i64 0)) v7 (Go.Value.int Go.IntKind.i64 0)) (fun v8 w =>
  R v8 w) w) w
theorem S42.calls (a0 a1 : Value) (R : Value → World → Prop) (w : World) (h : S42 a0 a1 R w) : Calls Try.prog 42 #[a0, a1] w fun e w' => ∃ v, e = .returned v ∧ R v w' :=
  calls_of_tr (n := 9) (c := bodyOf Try.f42) (.two .leaf (.two .leaf .leaf)) Try.func42 (by kernel_rfl) Try.ntmps42 (by kernel_rfl) (by kernel_rfl) [a0, a1] (by kernel_rfl) (of_eq_ (by kernel_rfl) h)

/-- shelfmark/record.bad -/
def S43 (a0 : Value) (R : Value → World → Prop) (w : World) : Prop :=
  LiftP Try.prog (Instr.box 36 a0) (fun v1 w =>
  LiftP Try.prog (Instr.loadAt 36 v1) (fun v3 w =>
  CallP Try.prog 54 #[v3] (fun v4 w =>
  LiftP Try.prog (Op.unary Go.UnOp.not v4) (fun v5 w =>
  R v5 w) w) w) w) w
theorem S43.calls (a0 : Value) (R : Value → World → Prop) (w : World) (h : S43 a0 R w) : Calls Try.prog 43 #[a0] w fun e w' => ∃ v, e = .returned v ∧ R v w' :=
  calls_of_tr (n := 6) (c := bodyOf Try.f43) (.two .leaf (.two .leaf .leaf)) Try.func43 (by kernel_rfl) Try.ntmps43 (by kernel_rfl) (by kernel_rfl) [a0] (by kernel_rfl) (of_eq_ (by kernel_rfl) h)

/-- slices.Clip[shelfmark/api.Record,shelfmark/api.Val] -/
def S44 (a0 : Value) (R : Value → World → Prop) (w : World) : Prop :=
  NextP Try.prog (builtin Go.Builtin.len #[24] 3 #[false] #[a0]) (fun v5 w =>
  NextP Try.prog (builtin Go.Builtin.len #[24] 3 #[false] #[a0]) (fun v7 w =>
  LiftP Try.prog (Instr.sliceAt 24 a0 none (some v5) (some v7)) (fun v8 w =>
  R v8 w) w) w) w
theorem S44.calls (a0 : Value) (R : Value → World → Prop) (w : World) (h : S44 a0 R w) : Calls Try.prog 44 #[a0] w fun e w' => ∃ v, e = .returned v ∧ R v w' :=
  calls_of_tr (n := 9) (c := bodyOf Try.f44) (.two .leaf (.two .leaf .leaf)) Try.func44 (by kernel_rfl) Try.ntmps44 (by kernel_rfl) (by kernel_rfl) [a0] (by kernel_rfl) (of_eq_ (by kernel_rfl) h)

/-- slices.Clone[shelfmark/api.Record,shelfmark/api.Val] -/
def S45 (a0 : Value) (R : Value → World → Prop) (w : World) : Prop :=
  LiftP Try.prog (binS Go.BinOp.eql 24 (Go.Operand.tmp 3) (Go.Operand.const (Go.Value.slice none 0 0)) a0 (Go.Value.slice none 0 0)) (fun v4 w =>
  CondP v4 (fun w =>
    R (Go.Value.slice none 0 0) w) (fun w =>
    LiftP Try.prog (Instr.buildSlice 24 0 #[]) (fun v5 w =>
  NextP Try.prog (builtin Go.Builtin.append #[24, 24] 24 #[false, false] #[v5, a0]) (fun v7 w =>
  R v7 w) w) w) w) w
theorem S45.calls (a0 : Value) (R : Value → World → Prop) (w : World) (h : S45 a0 R w) : Calls Try.prog 45 #[a0] w fun e w' => ∃ v, e = .returned v ∧ R v w' :=
  calls_of_tr (n := 8) (c := bodyOf Try.f45) (.two .leaf (.two (.two .leaf (.two (.two .leaf .leaf) .leaf)) (.two .leaf .leaf))) Try.func45 (by kernel_rfl) Try.ntmps45 (by kernel_rfl) (by kernel_rfl) [a0] (by kernel_rfl) (of_eq_ (by kernel_rfl) h)

/-- maps.DeleteFunc[map[int]shelfmark/api.Reply,int,shelfmark/api.Reply] -/
def S46 (a0 a1 : Value) (R : Value → World → Prop) (w : World) : Prop :=
  LiftP Try.prog (Instr.range 66 a0) (fun v7 w =>
  LoopP (fun J vs w =>   -- []
    LiftP Try.prog (Instr.next v7 false 0) (fun v8 w =>
    LiftP Try.prog (Instr.extract v8 0) (fun v9 w =>
    CondP v9 (fun w =>
      LiftP Try.prog (Instr.entry v7) (fun v10 w =>
    LiftP Try.prog (Instr.extract v10 0) (fun v11 w =>
    LiftP Try.prog (Instr.extract v10 1) (fun v12 w =>
    LiftP Try.prog (Instr.alloc 27 true (.tuple #[])) (fun v5 w =>
    LiftU Try.prog (Instr.storeAt 27 v5 v12) (fun v_ w =>
    LiftP Try.prog (Instr.loadAt 27 v5) (fun v15 w =>
    NextP Try.prog (callV a1 #[v11, v15]) (fun v16 w =>
    CondP v16 (fun w =>
      NextP Try.prog (builtin Go.Builtin.delete #[66, 3] 0 #[false, false] #[a0, v11]) (fun v__1 w =>
      J [] w) w) (fun w =>
      J [] w) w) w) w) w) w) w) w) w) (fun w =>
      R (.tuple #[]) w) w) w) w) [] w) w
theorem S46.calls (a0 a1 : Value) (R : Value → World → Prop) (w : World) (h : S46 a0 a1 R w) : Calls Try.prog 46 #[a0, a1] w fun e w' => ∃ v, e = .returned v ∧ R v w' :=
  calls_of_tr (n := 19) (c := bodyOf Try.f46) (.two .leaf (.one (.loop [] (.two .leaf (.two (.two .leaf .leaf) (.one (.two .leaf (.two .leaf (.two .leaf .leaf))))))))) Try.func46 (by kernel_rfl) Try.ntmps46 (by kernel_rfl) (by kernel_rfl) [a0, a1] (by kernel_rfl) (of_eq_ (by kernel_rfl) h)

/-- (*shelfmark/once.client).trim$1 -/
def S47 (a0 a1 a2 : Value) (R : Value → World → Prop) (w : World) : Prop :=
  LiftP Try.prog (Instr.box 27 a1) (fun v4 w =>
  LiftP Try.prog (Instr.loadAt 63 a2) (fun v7 w =>
  NextP Try.prog (nilChk v7) (fun v8 w =>
  LiftP Try.prog (Instr.fieldAt 68 v8 0) (fun v9 w =>
  LiftP Try.prog (Instr.loadAt 3 v9) (fun v10 w =>
  LiftP Try.prog (binS Go.BinOp.leq 3 (Go.Operand.tmp 6) (Go.Operand.tmp 10) a0 v10) (fun v11 w =>
  R v11 w) w) w) w) w) w) w
theorem S47.calls (a0 a1 a2 : Value) (R : Value → World → Prop) (w : World) (h : S47 a0 a1 a2 R w) : Calls Try.prog 47 #[a0, a1, a2] w fun e w' => ∃ v, e = .returned v ∧ R v w' :=
  calls_of_tr (n := 12) (c := bodyOf Try.f47) (.two .leaf (.two .leaf .leaf)) Try.func47 (by kernel_rfl) Try.ntmps47 (by kernel_rfl) (by kernel_rfl) [a0, a1, a2] (by kernel_rfl) (of_eq_ (by kernel_rfl) h)

/-- slices.Min[[]int,int] -/
def S48 (a0 : Value) (R : Value → World → Prop) (w : World) : Prop :=
  JoinP (fun J w =>
    NextP Try.prog (builtin Go.Builtin.len #[51] 3 #[false] #[a0]) (fun v6 w =>
    LiftP Try.prog (binS Go.BinOp.lss 3 (Go.Operand.tmp 6) (Go.Operand.const (Go.Value.int Go.IntKind.i64 1)) v6 (Go.Value.int Go.IntKind.i64 1)) (fun v7 w =>
    CondP v7 (fun w =>
      LiftP Try.prog (Instr.makeInterface 9 (Go.Value.string { data := #[115, 108, 105, 99, 101, 115, 46, 77, 105, 110, 58, 32, 101, 109, 112, 116, 121, 32, 108, 105, 115, 116] })) (fun v8 w =>
      LiftP Try.prog (Instr.panic v8) (fun v_ w =>
      J [] w) w) w) (fun w =>
      J [] w) w) w) w) (fun vs w =>   -- []
  LiftP Try.prog (Instr.indexAt 51 a0 (Go.Value.int Go.IntKind.i64 0)) (fun v10 w =>
  LiftP Try.prog (Instr.loadAt 3 v10) (fun v11 w =>
  LoopP (fun J_1 vs_1 w =>   -- [3, 4]
    NextP Try.prog (builtin Go.Builtin.len #[51] 3 #[false] #[a0]) (fun v14 w =>
    LiftP Try.prog (binS Go.BinOp.lss 3 (Go.Operand.tmp 12) (Go.Operand.tmp 14) (vs_1.tail.headD undef) v14) (fun v15 w =>
    CondP v15 (fun w =>
      LiftP Try.prog (Instr.indexAt 51 a0 (vs_1.tail.headD undef)) (fun v21 w =>
    LiftP Try.prog (Instr.loadAt 3 v21) (fun v22 w =>
    NextP Try.prog (builtin Go.Builtin.min #[3, 3] 3 #[false, false] #[(vs_1.headD undef), v22]) (fun v23 w =>
    LiftP Try.prog (binS Go.BinOp.add 3 (Go.Operand.tmp 16) (Go.Operand.const (Go.Value.int Go.IntKind.i64 1)) (vs_1.tail.headD undef) (Go.Value.int Go.IntKind.i64 1)) (fun v17 w =>
    J_1 [v23, v17] w) w) w) w) w) (fun w =>
      R (vs_1.headD undef) w) w) w) w) [v11, (Go.Value.int Go.IntKind.i64 1)] w) w) w) w
theorem S48.calls (a0 : Value) (R : Value → World → Prop) (w : World) (h : S48 a0 R w) : Calls Try.prog 48 #[a0] w fun e w' => ∃ v, e = .returned v ∧ R v w' :=
  calls_of_tr (n := 25) (c := bodyOf Try.f48) (.two .leaf (.join [] (.two .leaf (.two .leaf .leaf)) (.two .leaf (.two (.two .leaf (.one (.loop [3, 4] (.two (.two .leaf (.two .leaf .leaf)) (.two (.one .leaf) .leaf))))) (.two .leaf .leaf))))) Try.func48 (by kernel_rfl) Try.ntmps48 (by kernel_rfl) (by kernel_rfl) [a0] (by kernel_rfl) (of_eq_ (by kernel_rfl) h)

/-- slices.IndexFunc[shelfmark/api.Record,shelfmark/api.Val] -/
def S53 (a0 a1 : Value) (R : Value → World → Prop) (w : World) : Prop :=
  NextP Try.prog (builtin Go.Builtin.len #[24] 3 #[false] #[a0]) (fun v7 w =>
  LoopP (fun J vs w =>   -- [8]
    LiftP Try.prog (binS Go.BinOp.lss 3 (Go.Operand.tmp 8) (Go.Operand.tmp 7) (vs.headD undef) v7) (fun v9 w =>
    CondP v9 (fun w =>
      LiftP Try.prog (Instr.indexAt 24 a0 (vs.headD undef)) (fun v14 w =>
    LiftP Try.prog (Instr.loadAt 36 v14) (fun v15 w =>
    NextP Try.prog (callV a1 #[v15]) (fun v16 w =>
    CondP v16 (fun w =>
      R (vs.headD undef) w) (fun w =>
      LiftP Try.prog (binS Go.BinOp.add 3 (Go.Operand.tmp 8) (Go.Operand.const (Go.Value.int Go.IntKind.i64 1)) (vs.headD undef) (Go.Value.int Go.IntKind.i64 1)) (fun v18 w =>
    J [v18] w) w) w) w) w) w) (fun w =>
      R (Go.Value.int Go.IntKind.i64 (-1)) w) w) w) [(Go.Value.int Go.IntKind.i64 0)] w) w
theorem S53.calls (a0 a1 : Value) (R : Value → World → Prop) (w : World) (h : S53 a0 a1 R w) : Calls Try.prog 53 #[a0, a1] w fun e w' => ∃ v, e = .returned v ∧ R v w' :=
  calls_of_tr (n := 19) (c := bodyOf Try.f53) (.two .leaf (.two (.two .leaf (.one (.loop [8] (.two .leaf (.two (.two .leaf .leaf) (.two (.one (.two .leaf (.two .leaf (.two (.two .leaf .leaf) .leaf)))) .leaf)))))) (.two .leaf .leaf))) Try.func53 (by kernel_rfl) Try.ntmps53 (by kernel_rfl) (by kernel_rfl) [a0, a1] (by kernel_rfl) (of_eq_ (by kernel_rfl) h)

/-- shelfmark/tuple.Good -/
def S54 (a0 : Value) (R : Value → World → Prop) (w : World) : Prop :=
  LiftP Try.prog (Instr.box 36 a0) (fun v1 w =>
  LiftP Try.prog (Instr.fieldAt 36 v1 0) (fun v3 w =>
  LiftP Try.prog (Instr.loadAt 3 v3) (fun v4 w =>
  LiftP Try.prog (binS Go.BinOp.eql 3 (Go.Operand.tmp 4) (Go.Operand.const (Go.Value.int Go.IntKind.i64 0)) v4 (Go.Value.int Go.IntKind.i64 0)) (fun v6 w =>
  CondP v6 (fun w =>
    LiftP Try.prog (Instr.loadAt 36 v1) (fun v7 w =>
    LiftP Try.prog (Instr.build 36 #[]) (fun v8 w =>
    LiftP Try.prog (binS Go.BinOp.eql 36 (Go.Operand.tmp 7) (Go.Operand.tmp 8) v7 v8) (fun v9 w =>
    R v9 w) w) w) w) (fun w =>
    LiftP Try.prog (binS Go.BinOp.eql 3 (Go.Operand.tmp 4) (Go.Operand.const (Go.Value.int Go.IntKind.i64 1)) v4 (Go.Value.int Go.IntKind.i64 1)) (fun v11 w =>
    CondP v11 (fun w =>
      LiftP Try.prog (Instr.fieldAt 36 v1 2) (fun v12 w =>
      LiftP Try.prog (Instr.loadAt 9 v12) (fun v13 w =>
      LiftP Try.prog (binS Go.BinOp.eql 9 (Go.Operand.tmp 13) (Go.Operand.const (Go.Value.string { data := #[] })) v13 (Go.Value.string { data := #[] })) (fun v14 w =>
      R v14 w) w) w) w) (fun w =>
      LiftP Try.prog (binS Go.BinOp.eql 3 (Go.Operand.tmp 4) (Go.Operand.const (Go.Value.int Go.IntKind.i64 2)) v4 (Go.Value.int Go.IntKind.i64 2)) (fun v16 w =>
      CondP v16 (fun w =>
        LiftP Try.prog (Instr.fieldAt 36 v1 1) (fun v17 w =>
        LiftP Try.prog (Instr.loadAt 3 v17) (fun v18 w =>
        LiftP Try.prog (binS Go.BinOp.eql 3 (Go.Operand.tmp 18) (Go.Operand.const (Go.Value.int Go.IntKind.i64 0)) v18 (Go.Value.int Go.IntKind.i64 0)) (fun v19 w =>
        GuardP v19 true (fun K w => LiftP Try.prog (Instr.fieldAt 36 v1 2) K w) (fun v21 w =>
        GuardP v19 true (fun K w => LiftP Try.prog (Instr.loadAt 9 v21) K w) (fun v22 w =>
        GuardP v19 true (fun K w => NextP Try.prog (builtin Go.Builtin.len #[9] 3 #[false] #[v22]) K w) (fun v23 w =>
        GuardP v19 true (fun K w => LiftP Try.prog (binS Go.BinOp.leq 3 (Go.Operand.tmp 23) (Go.Operand.const (Go.Value.int Go.IntKind.i64 32)) v23 (Go.Value.int Go.IntKind.i64 32)) K w) (fun v24 w =>
        PickP v19 v24 (Go.Value.bool false) (fun v25 w =>
        R v25 w) w) w) w) w) w) w) w) w) (fun w =>
        R (Go.Value.bool false) w) w) w) w) w) w) w) w) w) w
theorem S54.calls (a0 : Value) (R : Value → World → Prop) (w : World) (h : S54 a0 R w) : Calls Try.prog 54 #[a0] w fun e w' => ∃ v, e = .returned v ∧ R v w' :=
  calls_of_tr (n := 26) (c := bodyOf Try.f54) (.two .leaf (.two (.two .leaf (.one (.two .leaf (.two (.two .leaf .leaf) (.two .leaf (.two (.two .leaf .leaf) (.two .leaf (.two (.two .leaf .leaf) .leaf)))))))) (.two .leaf .leaf))) Try.func54 (by kernel_rfl) Try.ntmps54 (by kernel_rfl) (by kernel_rfl) [a0] (by kernel_rfl) (of_eq_ (by kernel_rfl) h)

/-- shelfmark/shelfmarkref03.Row -/
def S50 (a0 : Value) (R : Value → World → Prop) (w : World) : Prop :=
  NextP Try.prog (builtin Go.Builtin.len #[23] 3 #[false] #[a0]) (fun v5 w =>
  LiftP Try.prog (binS Go.BinOp.gtr 3 (Go.Operand.tmp 5) (Go.Operand.const (Go.Value.int Go.IntKind.i64 4)) v5 (Go.Value.int Go.IntKind.i64 4)) (fun v6 w =>
  CondP v6 (fun w =>
    R (Go.Value.int Go.IntKind.i64 4) w) (fun w =>
    LoopP (fun J vs w =>   -- [3]
    NextP Try.prog (builtin Go.Builtin.len #[23] 3 #[false] #[a0]) (fun v9 w =>
    LiftP Try.prog (binS Go.BinOp.lss 3 (Go.Operand.tmp 7) (Go.Operand.tmp 9) (vs.headD undef) v9) (fun v10 w =>
    CondP v10 (fun w =>
      LiftP Try.prog (Instr.indexAt 23 a0 (vs.headD undef)) (fun v15 w =>
    LiftP Try.prog (Instr.loadAt 36 v15) (fun v16 w =>
    CallP Try.prog 56 #[v16] (fun v17 w =>
    LiftP Try.prog (Op.unary Go.UnOp.not v17) (fun v18 w =>
    CondP v18 (fun w =>
      R (Go.Value.int Go.IntKind.i64 1) w) (fun w =>
      LiftP Try.prog (binS Go.BinOp.add 3 (Go.Operand.tmp 11) (Go.Operand.const (Go.Value.int Go.IntKind.i64 1)) (vs.headD undef) (Go.Value.int Go.IntKind.i64 1)) (fun v12 w =>
    J [v12] w) w) w) w) w) w) w) (fun w =>
      R (Go.Value.int Go.IntKind.i64 0) w) w) w) w) [(Go.Value.int Go.IntKind.i64 0)] w) w) w) w
theorem S50.calls (a0 : Value) (R : Value → World → Prop) (w : World) (h : S50 a0 R w) : Calls Try.prog 50 #[a0] w fun e w' => ∃ v, e = .returned v ∧ R v w' :=
  calls_of_tr (n := 19) (c := bodyOf Try.f50) (.two .leaf (.two (.two .leaf (.two (.two .leaf .leaf) .leaf)) (.two (.two .leaf (.one (.loop [3] (.two (.two .leaf (.two .leaf .leaf)) (.two (.one (.two .leaf (.two (.two .leaf .leaf) .leaf))) .leaf))))) (.two .leaf .leaf)))) Try.func50 (by kernel_rfl) Try.ntmps50 (by kernel_rfl) (by kernel_rfl) [a0] (by kernel_rfl) (of_eq_ (by kernel_rfl) h)

end Go.Proofs.Ytmnaggdhkggjhaa.E
