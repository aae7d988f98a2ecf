import Derived.Test.YtgaamfdhjpkicaaE4
import Derived.Test.YtgaamfdhjpkicaaProg
import Derived.KernelRfl
namespace Go.Proofs.Ytgaamfdhjpkicaa.E
open Go
set_option maxRecDepth 100000

/-- shelfmark/shelfmarklaw02.SumIs -/
def S3 (a0 a1 : Value) (R : Value → World → Prop) (w : World) : Prop :=
  CallP Try.prog 16 #[] (fun v5 w =>
  LiftP Try.prog (Op.unary Go.UnOp.not v5) (fun v6 w =>
  CondP v6 (fun w =>
    R (Go.Value.bool false) w) (fun w =>
    NextP Try.prog (builtin Go.Builtin.len #[23] 3 #[false] #[a1]) (fun v8 w =>
  LiftP Try.prog (binS Go.BinOp.gtr 3 (Go.Operand.tmp 8) (Go.Operand.const (Go.Value.int Go.IntKind.i64 5000)) v8 (Go.Value.int Go.IntKind.i64 5000)) (fun v9 w =>
  CondP v9 (fun w =>
    R (Go.Value.bool true) w) (fun w =>
    CallP Try.prog 17 #[a1] (fun v11 w =>
  CallP Try.prog 18 #[a1] (fun v13 w =>
  LiftP Try.prog (binS Go.BinOp.eql 22 (Go.Operand.tmp 11) (Go.Operand.tmp 13) v11 v13) (fun v14 w =>
  GuardP v14 true (fun K w => K a0 w) (fun v16 w =>
  GuardP v14 true (fun K w => K a1 w) (fun v17 w =>
  GuardP v14 true (fun K w => CallP Try.prog 19 #[v16, v17] K w) (fun v18 w =>
  GuardP v14 true (fun K w => K a0 w) (fun v19 w =>
  GuardP v14 true (fun K w => K a1 w) (fun v20 w =>
  GuardP v14 true (fun K w => CallP Try.prog 20 #[v19, v20] K w) (fun v21 w =>
  GuardP v14 true (fun K w => LiftP Try.prog (binS Go.BinOp.eql 22 (Go.Operand.tmp 18) (Go.Operand.tmp 21) v18 v21) K w) (fun v22 w =>
  PickP v14 v22 (Go.Value.bool false) (fun v23 w =>
  R v23 w) w) w) w) w) w) w) w) w) w) w) w) w) w) w) w) w) w
theorem S3.calls (a0 a1 : Value) (R : Value → World → Prop) (w : World) (h : S3 a0 a1 R w) : Calls Try.prog 3 #[a0, a1] w fun e w' => ∃ v, e = .returned v ∧ R v w' :=
  calls_of_tr (n := 24) (c := bodyOf Try.f3) (.two .leaf (.two (.two .leaf (.two (.two .leaf .leaf) .leaf)) (.two (.two .leaf (.two (.two .leaf .leaf) .leaf)) (.two .leaf .leaf)))) Try.func3 (by kernel_rfl) Try.ntmps3 (by kernel_rfl) (by kernel_rfl) [a0, a1] (by kernel_rfl) (of_eq_ (by kernel_rfl) h)

/-- shelfmark/shelfmarklaw02.SumParts -/
def S4 (a0 a1 : Value) (R : Value → World → Prop) (w : World) : Prop :=
  CallP Try.prog 16 #[] (fun v8 w =>
  LiftP Try.prog (Op.unary Go.UnOp.not v8) (fun v9 w =>
  CondP v9 (fun w =>
    R (Go.Value.bool false) w) (fun w =>
    NextP Try.prog (builtin Go.Builtin.len #[23] 3 #[false] #[a0]) (fun v11 w =>
  LiftP Try.prog (binS Go.BinOp.gtr 3 (Go.Operand.tmp 11) (Go.Operand.const (Go.Value.int Go.IntKind.i64 5000)) v11 (Go.Value.int Go.IntKind.i64 5000)) (fun v12 w =>
  GuardP v12 false (fun K w => K a1 w) (fun v14 w =>
  GuardP v12 false (fun K w => NextP Try.prog (builtin Go.Builtin.len #[28] 3 #[false] #[v14]) K w) (fun v15 w =>
  GuardP v12 false (fun K w => LiftP Try.prog (binS Go.BinOp.gtr 3 (Go.Operand.tmp 15) (Go.Operand.const (Go.Value.int Go.IntKind.i64 50)) v15 (Go.Value.int Go.IntKind.i64 50)) K w) (fun v16 w =>
  PickP v12 (Go.Value.bool true) v16 (fun v17 w =>
  CondP v17 (fun w =>
    R (Go.Value.bool true) w) (fun w =>
    LoopP (fun J vs w =>   -- [5, 6, 7]
    NextP Try.prog (builtin Go.Builtin.len #[28] 3 #[false] #[a1]) (fun v20 w =>
    LiftP Try.prog (binS Go.BinOp.lss 3 (Go.Operand.tmp 18) (Go.Operand.tmp 20) (vs.tail.tail.headD undef) v20) (fun v21 w =>
    CondP v21 (fun w =>
      JoinP (fun J_1 w =>
      LiftP Try.prog (Instr.indexAt 28 a1 (vs.tail.tail.headD undef)) (fun v26 w =>
      LiftP Try.prog (Instr.loadAt 3 v26) (fun v27 w =>
      LiftP Try.prog (binS Go.BinOp.geq 3 (Go.Operand.tmp 27) (Go.Operand.tmp 28) v27 (vs.tail.headD undef)) (fun v29 w =>
      GuardP v29 true (fun K w => K a1 w) (fun v31 w =>
      GuardP v29 true (fun K w => K (vs.tail.tail.headD undef) w) (fun v32 w =>
      GuardP v29 true (fun K w => LiftP Try.prog (Instr.indexAt 28 v31 v32) K w) (fun v33 w =>
      GuardP v29 true (fun K w => LiftP Try.prog (Instr.loadAt 3 v33) K w) (fun v34 w =>
      GuardP v29 true (fun K w => K a0 w) (fun v35 w =>
      GuardP v29 true (fun K w => NextP Try.prog (builtin Go.Builtin.len #[23] 3 #[false] #[v35]) K w) (fun v36 w =>
      GuardP v29 true (fun K w => LiftP Try.prog (binS Go.BinOp.leq 3 (Go.Operand.tmp 34) (Go.Operand.tmp 36) v34 v36) K w) (fun v37 w =>
      PickP v29 v37 (Go.Value.bool false) (fun v38 w =>
      CondP v38 (fun w =>
        LiftP Try.prog (Instr.indexAt 28 a1 (vs.tail.tail.headD undef)) (fun v44 w =>
        LiftP Try.prog (Instr.loadAt 3 v44) (fun v45 w =>
        LiftP Try.prog (Instr.sliceAt 23 a0 (some (vs.tail.headD undef)) (some v45) none) (fun v46 w =>
        CallP Try.prog 19 #[(vs.headD undef), v46] (fun v47 w =>
        LiftP Try.prog (Instr.indexAt 28 a1 (vs.tail.tail.headD undef)) (fun v50 w =>
        LiftP Try.prog (Instr.loadAt 3 v50) (fun v51 w =>
        J_1 [v47, v51] w) w) w) w) w) w) w) (fun w =>
        J_1 [(vs.headD undef), (vs.tail.headD undef)] w) w) w) w) w) w) w) w) w) w) w) w) w) (fun vs_1 w =>   -- [5, 6]
    LiftP Try.prog (binS Go.BinOp.add 3 (Go.Operand.tmp 22) (Go.Operand.const (Go.Value.int Go.IntKind.i64 1)) (vs.tail.tail.headD undef) (Go.Value.int Go.IntKind.i64 1)) (fun v23 w =>
    J [(vs_1.headD undef), (vs_1.tail.headD undef), v23] w) w) w) (fun w =>
      LiftP Try.prog (Instr.sliceAt 23 a0 (some (vs.tail.headD undef)) none none) (fun v55 w =>
  CallP Try.prog 19 #[(vs.headD undef), v55] (fun v56 w =>
  CallP Try.prog 17 #[a0] (fun v58 w =>
  LiftP Try.prog (binS Go.BinOp.eql 22 (Go.Operand.tmp 56) (Go.Operand.tmp 58) v56 v58) (fun v59 w =>
  R v59 w) w) w) w) w) w) w) w) [(Go.Value.int Go.IntKind.u32 0), (Go.Value.int Go.IntKind.i64 0), (Go.Value.int Go.IntKind.i64 0)] w) w) w) w) w) w) w) w) w) w) w
theorem S4.calls (a0 a1 : Value) (R : Value → World → Prop) (w : World) (h : S4 a0 a1 R w) : Calls Try.prog 4 #[a0, a1] w fun e w' => ∃ v, e = .returned v ∧ R v w' :=
  calls_of_tr (n := 60) (c := bodyOf Try.f4) (.two .leaf (.two (.two .leaf (.two (.two .leaf .leaf) .leaf)) (.two (.two .leaf (.two (.two .leaf .leaf) .leaf)) (.two .leaf (.two .leaf (.two (.two .leaf (.one (.loop [5, 6, 7] (.two (.two .leaf (.two .leaf .leaf)) (.join [5, 6] (.one (.two .leaf (.two (.two .leaf .leaf) .leaf))) .leaf))))) (.two .leaf .leaf))))))) Try.func4 (by kernel_rfl) Try.ntmps4 (by kernel_rfl) (by kernel_rfl) [a0, a1] (by kernel_rfl) (of_eq_ (by kernel_rfl) h)

/-- shelfmark/shelfmarklaw02.SumTells -/
def S5 (a0 a1 a2 : Value) (R : Value → World → Prop) (w : World) : Prop :=
  CallP Try.prog 16 #[] (fun v9 w =>
  LiftP Try.prog (Op.unary Go.UnOp.not v9) (fun v10 w =>
  CondP v10 (fun w =>
    R (Go.Value.bool false) w) (fun w =>
    NextP Try.prog (builtin Go.Builtin.len #[23] 3 #[false] #[a0]) (fun v12 w =>
  LiftP Try.prog (binS Go.BinOp.gtr 3 (Go.Operand.tmp 12) (Go.Operand.const (Go.Value.int Go.IntKind.i64 5000)) v12 (Go.Value.int Go.IntKind.i64 5000)) (fun v13 w =>
  GuardP v13 false (fun K w => K a1 w) (fun v15 w =>
  GuardP v13 false (fun K w => LiftP Try.prog (binS Go.BinOp.lss 3 (Go.Operand.tmp 15) (Go.Operand.const (Go.Value.int Go.IntKind.i64 0)) v15 (Go.Value.int Go.IntKind.i64 0)) K w) (fun v16 w =>
  PickP v13 (Go.Value.bool true) v16 (fun v17 w =>
  GuardP v17 false (fun K w => K a1 w) (fun v19 w =>
  GuardP v17 false (fun K w => K a0 w) (fun v20 w =>
  GuardP v17 false (fun K w => NextP Try.prog (builtin Go.Builtin.len #[23] 3 #[false] #[v20]) K w) (fun v21 w =>
  GuardP v17 false (fun K w => LiftP Try.prog (binS Go.BinOp.geq 3 (Go.Operand.tmp 19) (Go.Operand.tmp 21) v19 v21) K w) (fun v22 w =>
  PickP v17 (Go.Value.bool true) v22 (fun v23 w =>
  GuardP v23 false (fun K w => K a2 w) (fun v25 w =>
  GuardP v23 false (fun K w => LiftP Try.prog (binS Go.BinOp.lss 3 (Go.Operand.tmp 25) (Go.Operand.const (Go.Value.int Go.IntKind.i64 0)) v25 (Go.Value.int Go.IntKind.i64 0)) K w) (fun v26 w =>
  PickP v23 (Go.Value.bool true) v26 (fun v27 w =>
  GuardP v27 false (fun K w => K a2 w) (fun v29 w =>
  GuardP v27 false (fun K w => LiftP Try.prog (binS Go.BinOp.gtr 3 (Go.Operand.tmp 29) (Go.Operand.const (Go.Value.int Go.IntKind.i64 7)) v29 (Go.Value.int Go.IntKind.i64 7)) K w) (fun v30 w =>
  PickP v27 (Go.Value.bool true) v30 (fun v31 w =>
  CondP v31 (fun w =>
    R (Go.Value.bool true) w) (fun w =>
    LiftP Try.prog (Instr.buildSlice 23 0 #[]) (fun v32 w =>
  NextP Try.prog (builtin Go.Builtin.append #[23, 23] 23 #[false, false] #[v32, a0]) (fun v34 w =>
  LiftP Try.prog (Instr.indexAt 23 v34 a1) (fun v39 w =>
  LiftP Try.prog (Instr.loadAt 5 v39) (fun v40 w =>
  LiftP Try.prog (convert 3 30 a2) (fun v42 w =>
  LiftP Try.prog (binS Go.BinOp.shl 5 (Go.Operand.const (Go.Value.int Go.IntKind.u8 1)) (Go.Operand.tmp 42) (Go.Value.int Go.IntKind.u8 1) v42) (fun v43 w =>
  LiftP Try.prog (binS Go.BinOp.xor 5 (Go.Operand.tmp 40) (Go.Operand.tmp 43) v40 v43) (fun v44 w =>
  LiftP Try.prog (Instr.indexAt 23 v34 a1) (fun v45 w =>
  LiftU Try.prog (Instr.storeAt 5 v45 v44) (fun v_ w =>
  CallP Try.prog 17 #[v34] (fun v47 w =>
  CallP Try.prog 17 #[a0] (fun v49 w =>
  LiftP Try.prog (binS Go.BinOp.eql 22 (Go.Operand.tmp 47) (Go.Operand.tmp 49) v47 v49) (fun v50 w =>
  GuardP v50 false (fun K w => K a2 w) (fun v52 w =>
  GuardP v50 false (fun K w => LiftP Try.prog (binS Go.BinOp.gtr 3 (Go.Operand.tmp 52) (Go.Operand.const (Go.Value.int Go.IntKind.i64 6)) v52 (Go.Value.int Go.IntKind.i64 6)) K w) (fun v53 w =>
  PickP v50 (Go.Value.bool true) v53 (fun v54 w =>
  CondP v54 (fun w =>
    CallP Try.prog 17 #[v34] (fun v56 w =>
    CallP Try.prog 17 #[a0] (fun v58 w =>
    LiftP Try.prog (binS Go.BinOp.neq 22 (Go.Operand.tmp 56) (Go.Operand.tmp 58) v56 v58) (fun v59 w =>
    R v59 w) w) w) w) (fun w =>
    LiftP Try.prog (Instr.buildSlice 23 0 #[]) (fun v60 w =>
  NextP Try.prog (builtin Go.Builtin.append #[23, 23] 23 #[false, false] #[v60, a0]) (fun v62 w =>
  LiftP Try.prog (Instr.indexAt 23 v62 a1) (fun v67 w =>
  LiftP Try.prog (Instr.loadAt 5 v67) (fun v68 w =>
  LiftP Try.prog (convert 3 30 a2) (fun v70 w =>
  LiftP Try.prog (binS Go.BinOp.shl 5 (Go.Operand.const (Go.Value.int Go.IntKind.u8 3)) (Go.Operand.tmp 70) (Go.Value.int Go.IntKind.u8 3) v70) (fun v71 w =>
  LiftP Try.prog (binS Go.BinOp.xor 5 (Go.Operand.tmp 68) (Go.Operand.tmp 71) v68 v71) (fun v72 w =>
  LiftP Try.prog (Instr.indexAt 23 v62 a1) (fun v73 w =>
  LiftU Try.prog (Instr.storeAt 5 v73 v72) (fun v__1 w =>
  CallP Try.prog 17 #[v62] (fun v75 w =>
  CallP Try.prog 17 #[a0] (fun v77 w =>
  LiftP Try.prog (binS Go.BinOp.neq 22 (Go.Operand.tmp 75) (Go.Operand.tmp 77) v75 v77) (fun v78 w =>
  GuardP v78 true (fun K w => K v62 w) (fun v80 w =>
  GuardP v78 true (fun K w => CallP Try.prog 17 #[v80] K w) (fun v81 w =>
  GuardP v78 true (fun K w => K v34 w) (fun v82 w =>
  GuardP v78 true (fun K w => CallP Try.prog 17 #[v82] K w) (fun v83 w =>
  GuardP v78 true (fun K w => LiftP Try.prog (binS Go.BinOp.neq 22 (Go.Operand.tmp 81) (Go.Operand.tmp 83) v81 v83) K w) (fun v84 w =>
  PickP v78 v84 (Go.Value.bool false) (fun v85 w =>
  R v85 w) w) w) w) w) w) w) w) w) w) w) w) w) w) w) w) w) w) w) w) w) w) w) w) w) w) w) w) w) w) w) w) w) w) w) w) w) w) w) w) w) w) w) w) w) w) w) w) w) w) w) w) w) w) w
theorem S5.calls (a0 a1 a2 : Value) (R : Value → World → Prop) (w : World) (h : S5 a0 a1 a2 R w) : Calls Try.prog 5 #[a0, a1, a2] w fun e w' => ∃ v, e = .returned v ∧ R v w' :=
  calls_of_tr (n := 86) (c := bodyOf Try.f5) (.two .leaf (.two (.two .leaf (.two (.two .leaf .leaf) .leaf)) (.two (.two .leaf (.two (.two .leaf .leaf) .leaf)) (.two .leaf (.two .leaf (.two (.two .leaf (.two (.two .leaf .leaf) .leaf)) (.two .leaf (.two .leaf (.two .leaf .leaf))))))))) Try.func5 (by kernel_rfl) Try.ntmps5 (by kernel_rfl) (by kernel_rfl) [a0, a1, a2] (by kernel_rfl) (of_eq_ (by kernel_rfl) h)

/-- shelfmark/shelfmarklaw02.SumPuts -/
def S6 (a0 a1 a2 a3 : Value) (R : Value → World → Prop) (w : World) : Prop :=
  CallP Try.prog 16 #[] (fun v14 w =>
  LiftP Try.prog (Op.unary Go.UnOp.not v14) (fun v15 w =>
  CondP v15 (fun w =>
    R (Go.Value.bool false) w) (fun w =>
    NextP Try.prog (builtin Go.Builtin.len #[23] 3 #[false] #[a1]) (fun v17 w =>
  LiftP Try.prog (binS Go.BinOp.gtr 3 (Go.Operand.tmp 17) (Go.Operand.const (Go.Value.int Go.IntKind.i64 1000)) v17 (Go.Value.int Go.IntKind.i64 1000)) (fun v18 w =>
  GuardP v18 false (fun K w => K a2 w) (fun v20 w =>
  GuardP v18 false (fun K w => NextP Try.prog (builtin Go.Builtin.len #[23] 3 #[false] #[v20]) K w) (fun v21 w =>
  GuardP v18 false (fun K w => LiftP Try.prog (binS Go.BinOp.gtr 3 (Go.Operand.tmp 21) (Go.Operand.const (Go.Value.int Go.IntKind.i64 1000)) v21 (Go.Value.int Go.IntKind.i64 1000)) K w) (fun v22 w =>
  PickP v18 (Go.Value.bool true) v22 (fun v23 w =>
  CondP v23 (fun w =>
    R (Go.Value.bool true) w) (fun w =>
    LiftP Try.prog (Instr.buildSlice 23 0 #[]) (fun v24 w =>
  NextP Try.prog (builtin Go.Builtin.append #[23, 23] 23 #[false, false] #[v24, a1]) (fun v26 w =>
  CallP Try.prog 21 #[a0] (fun v28 w =>
  NextP Try.prog (builtin Go.Builtin.append #[23, 23] 23 #[false, false] #[v26, v28]) (fun v29 w =>
  NextP Try.prog (builtin Go.Builtin.append #[23, 23] 23 #[false, false] #[v29, a2]) (fun v31 w =>
  NextP Try.prog (builtin Go.Builtin.len #[23] 3 #[false] #[a1]) (fun v35 w =>
  CallP Try.prog 22 #[v31, v35] (fun v36 w =>
  LiftP Try.prog (Instr.extract v36 0) (fun v37 w =>
  LiftP Try.prog (Instr.extract v36 1) (fun v38 w =>
  DrawP (fun S w =>
  ActP S (fun K w => CallP Try.prog 21 #[a0] K w) (fun S v40 w =>
  YieldP Try.prog S (convert 23 9 v40) (fun v41 w =>
  ActP S (fun K w => CallP Try.prog 23 #[a0] K w) (fun S v43 w =>
  YieldP Try.prog S (convert 23 9 v43) (fun v44 w =>
  YieldP Try.prog S (binS Go.BinOp.neq 9 (Go.Operand.tmp 41) (Go.Operand.tmp 44) v41 v44) (fun v45 w =>
  GuardP v45 false (fun K w => K v37 w) (fun v47 w =>
  GuardP v45 false (fun K w => K a0 w) (fun v48 w =>
  GuardP v45 false (fun K w => YieldP Try.prog S (binS Go.BinOp.neq 22 (Go.Operand.tmp 47) (Go.Operand.tmp 48) v47 v48) K w) (fun v49 w =>
  PickP v45 (Go.Value.bool true) v49 (fun v50 w =>
  GuardP v50 false (fun K w => K v38 w) (fun v52 w =>
  GuardP v50 false (fun K w => YieldP Try.prog S (binS Go.BinOp.neq 33 (Go.Operand.tmp 52) (Go.Operand.const (Go.Value.int Go.IntKind.i64 0)) v52 (Go.Value.int Go.IntKind.i64 0)) K w) (fun v53 w =>
  PickP v50 (Go.Value.bool true) v53 (fun v54 w =>
  CondP v54 (fun w =>
    R (Go.Value.bool false) w) (fun w =>
    CallP Try.prog 22 #[v31, a3] (fun v58 w =>
  LiftP Try.prog (Instr.extract v58 0) (fun v59 w =>
  LiftP Try.prog (Instr.extract v58 1) (fun v60 w =>
  LiftP Try.prog (binS Go.BinOp.lss 3 (Go.Operand.tmp 62) (Go.Operand.const (Go.Value.int Go.IntKind.i64 0)) a3 (Go.Value.int Go.IntKind.i64 0)) (fun v63 w =>
  GuardP v63 false (fun K w => K a3 w) (fun v65 w =>
  GuardP v63 false (fun K w => K v31 w) (fun v66 w =>
  GuardP v63 false (fun K w => NextP Try.prog (builtin Go.Builtin.len #[23] 3 #[false] #[v66]) K w) (fun v67 w =>
  GuardP v63 false (fun K w => LiftP Try.prog (binS Go.BinOp.gtr 3 (Go.Operand.tmp 65) (Go.Operand.tmp 67) v65 v67) K w) (fun v68 w =>
  PickP v63 (Go.Value.bool true) v68 (fun v69 w =>
  CondP v69 (fun w =>
    LiftP Try.prog (binS Go.BinOp.eql 22 (Go.Operand.tmp 70) (Go.Operand.const (Go.Value.int Go.IntKind.u32 0)) v59 (Go.Value.int Go.IntKind.u32 0)) (fun v71 w =>
    GuardP v71 true (fun K w => K v60 w) (fun v73 w =>
    GuardP v71 true (fun K w => LiftP Try.prog (binS Go.BinOp.eql 33 (Go.Operand.tmp 73) (Go.Operand.const (Go.Value.int Go.IntKind.i64 1)) v73 (Go.Value.int Go.IntKind.i64 1)) K w) (fun v74 w =>
    PickP v71 v74 (Go.Value.bool false) (fun v75 w =>
    R v75 w) w) w) w) w) (fun w =>
    NextP Try.prog (builtin Go.Builtin.len #[23] 3 #[false] #[v31]) (fun v79 w =>
    LiftP Try.prog (binS Go.BinOp.sub 3 (Go.Operand.tmp 79) (Go.Operand.const (Go.Value.int Go.IntKind.i64 4)) v79 (Go.Value.int Go.IntKind.i64 4)) (fun v80 w =>
    LiftP Try.prog (binS Go.BinOp.gtr 3 (Go.Operand.tmp 77) (Go.Operand.tmp 80) a3 v80) (fun v81 w =>
    CondP v81 (fun w =>
      LiftP Try.prog (binS Go.BinOp.eql 22 (Go.Operand.tmp 82) (Go.Operand.const (Go.Value.int Go.IntKind.u32 0)) v59 (Go.Value.int Go.IntKind.u32 0)) (fun v83 w =>
      GuardP v83 true (fun K w => K v60 w) (fun v85 w =>
      GuardP v83 true (fun K w => LiftP Try.prog (binS Go.BinOp.eql 33 (Go.Operand.tmp 85) (Go.Operand.const (Go.Value.int Go.IntKind.i64 2)) v85 (Go.Value.int Go.IntKind.i64 2)) K w) (fun v86 w =>
      PickP v83 v86 (Go.Value.bool false) (fun v87 w =>
      R v87 w) w) w) w) w) (fun w =>
      DrawP (fun S w =>
  YieldP Try.prog S (binS Go.BinOp.eql 33 (Go.Operand.tmp 88) (Go.Operand.const (Go.Value.int Go.IntKind.i64 0)) v60 (Go.Value.int Go.IntKind.i64 0)) (fun v89 w =>
  GuardP v89 true (fun K w => K v59 w) (fun v91 w =>
  GuardP v89 true (fun K w => K v31 w) (fun v94 w =>
  GuardP v89 true (fun K w => K a3 w) (fun v95 w =>
  GuardP v89 true (fun K w => K a3 w) (fun v96 w =>
  GuardP v89 true (fun K w => YieldP Try.prog S (binS Go.BinOp.add 3 (Go.Operand.tmp 96) (Go.Operand.const (Go.Value.int Go.IntKind.i64 4)) v96 (Go.Value.int Go.IntKind.i64 4)) K w) (fun v97 w =>
  GuardP v89 true (fun K w => YieldP Try.prog S (Instr.sliceAt 23 v94 (some v95) (some v97) none) K w) (fun v98 w =>
  GuardP v89 true (fun K w => YieldP Try.prog S (convert 23 9 v98) K w) (fun v99 w =>
  GuardA v89 true S (fun K w => CallP Try.prog 21 #[v91] K w) (fun S v92 w =>
  GuardP v89 true (fun K w => YieldP Try.prog S (convert 23 9 v92) K w) (fun v93 w =>
  GuardP v89 true (fun K w => YieldP Try.prog S (binS Go.BinOp.eql 9 (Go.Operand.tmp 93) (Go.Operand.tmp 99) v93 v99) K w) (fun v100 w =>
  PickP v89 v100 (Go.Value.bool false) (fun v101 w =>
  R v101 w) w) w) w) w) w) w) w) w) w) w) w) w) w) w) w) w) w) w) w) w) w) w) w) w) w) w) w) w) w) w) w) w) w) w) w) w) w) w) w) w) w) w) w) w) w) w) w) w) w) w) w) w) w) w) w) w) w) w) w) w
theorem S6.calls (a0 a1 a2 a3 : Value) (R : Value → World → Prop) (w : World) (h : S6 a0 a1 a2 a3 R w) : Calls Try.prog 6 #[a0, a1, a2, a3] w fun e w' => ∃ v, e = .returned v ∧ R v w' :=
  calls_of_tr (n := 102) (c := bodyOf Try.f6) (.two .leaf (.two (.two .leaf (.two (.two .leaf .leaf) .leaf)) (.two (.two .leaf (.two (.two .leaf .leaf) .leaf)) (.two .leaf (.two .leaf (.two (.two (.draw [(true, 0), (true, 3), (false, 1), (true, 2), (false, 4), (true, 5), (true, 6), (true, 7), (true, 8), (true, 9), (true, 10), (true, 11), (true, 12), (true, 13), (true, 14), (true, 15)]) (.two (.two .leaf .leaf) .leaf)) (.two .leaf (.two (.one (.two .leaf (.two (.two .leaf .leaf) (.two .leaf (.two (.two .leaf .leaf) .leaf))))) (.two (.draw [(true, 0), (true, 1), (true, 2), (true, 3), (true, 6), (true, 7), (true, 8), (true, 9), (true, 10), (true, 11), (false, 4), (true, 5), (true, 12), (true, 13), (true, 14)]) .leaf))))))))) Try.func6 (by kernel_rfl) Try.ntmps6 (by kernel_rfl) (by kernel_rfl) [a0, a1, a2, a3] (by kernel_rfl) (of_eq_ (by kernel_rfl) h)

/-- shelfmark/shelfmarklaw02.awake -/
def S16 (R : Value → World → Prop) (w : World) : Prop :=
  LiftP Try.prog (Instr.buildSlice 23 9 #[(0, (Go.Value.int Go.IntKind.u8 49)), (1, (Go.Value.int Go.IntKind.u8 50)), (2, (Go.Value.int Go.IntKind.u8 51)), (3, (Go.Value.int Go.IntKind.u8 52)), (4, (Go.Value.int Go.IntKind.u8 53)), (5, (Go.Value.int Go.IntKind.u8 54)), (6, (Go.Value.int Go.IntKind.u8 55)), (7, (Go.Value.int Go.IntKind.u8 56)), (8, (Go.Value.int Go.IntKind.u8 57))]) (fun v1 w =>
  LiftP Try.prog (convert 23 23 v1) (fun v2 w =>
  CallP Try.prog 17 #[v2] (fun v3 w =>
  LiftP Try.prog (binS Go.BinOp.eql 22 (Go.Operand.tmp 3) (Go.Operand.const (Go.Value.int Go.IntKind.u32 3421780262)) v3 (Go.Value.int Go.IntKind.u32 3421780262)) (fun v4 w =>
  GuardP v4 true (fun K w => LiftP Try.prog (Instr.buildSlice 23 5 #[(0, (Go.Value.int Go.IntKind.u8 49)), (1, (Go.Value.int Go.IntKind.u8 50)), (2, (Go.Value.int Go.IntKind.u8 51)), (3, (Go.Value.int Go.IntKind.u8 52)), (4, (Go.Value.int Go.IntKind.u8 53))]) K w) (fun v6 w =>
  GuardP v4 true (fun K w => LiftP Try.prog (convert 23 23 v6) K w) (fun v7 w =>
  GuardP v4 true (fun K w => CallP Try.prog 17 #[v7] K w) (fun v8 w =>
  GuardP v4 true (fun K w => LiftP Try.prog (Instr.buildSlice 23 4 #[(0, (Go.Value.int Go.IntKind.u8 54)), (1, (Go.Value.int Go.IntKind.u8 55)), (2, (Go.Value.int Go.IntKind.u8 56)), (3, (Go.Value.int Go.IntKind.u8 57))]) K w) (fun v9 w =>
  GuardP v4 true (fun K w => LiftP Try.prog (convert 23 23 v9) K w) (fun v10 w =>
  GuardP v4 true (fun K w => CallP Try.prog 19 #[v8, v10] K w) (fun v11 w =>
  GuardP v4 true (fun K w => LiftP Try.prog (binS Go.BinOp.eql 22 (Go.Operand.tmp 11) (Go.Operand.const (Go.Value.int Go.IntKind.u32 3421780262)) v11 (Go.Value.int Go.IntKind.u32 3421780262)) K w) (fun v12 w =>
  PickP v4 v12 (Go.Value.bool false) (fun v13 w =>
  R v13 w) w) w) w) w) w) w) w) w) w) w) w) w
theorem S16.calls (R : Value → World → Prop) (w : World) (h : S16 R w) : Calls Try.prog 16 #[] w fun e w' => ∃ v, e = .returned v ∧ R v w' :=
  calls_of_tr (n := 14) (c := bodyOf Try.f16) (.two .leaf (.two .leaf .leaf)) Try.func16 (by kernel_rfl) Try.ntmps16 (by kernel_rfl) (by kernel_rfl) [] (by kernel_rfl) (of_eq_ (by kernel_rfl) h)

/-- shelfmark/sum.Of -/
def S17 (a0 : Value) (R : Value → World → Prop) (w : World) : Prop :=
  CallP Try.prog 19 #[(Go.Value.int Go.IntKind.u32 0), a0] (fun v4 w =>
  R v4 w) w
theorem S17.calls (a0 : Value) (R : Value → World → Prop) (w : World) (h : S17 a0 R w) : Calls Try.prog 17 #[a0] w fun e w' => ∃ v, e = .returned v ∧ R v w' :=
  calls_of_tr (n := 5) (c := bodyOf Try.f17) (.two .leaf (.two .leaf .leaf)) Try.func17 (by kernel_rfl) Try.ntmps17 (by kernel_rfl) (by kernel_rfl) [a0] (by kernel_rfl) (of_eq_ (by kernel_rfl) h)

/-- shelfmark/shelfmarkref02.Of -/
def S18 (a0 : Value) (R : Value → World → Prop) (w : World) : Prop :=
  CallP Try.prog 20 #[(Go.Value.int Go.IntKind.u32 0), a0] (fun v4 w =>
  R v4 w) w
theorem S18.calls (a0 : Value) (R : Value → World → Prop) (w : World) (h : S18 a0 R w) : Calls Try.prog 18 #[a0] w fun e w' => ∃ v, e = .returned v ∧ R v w' :=
  calls_of_tr (n := 5) (c := bodyOf Try.f18) (.two .leaf (.two .leaf .leaf)) Try.func18 (by kernel_rfl) Try.ntmps18 (by kernel_rfl) (by kernel_rfl) [a0] (by kernel_rfl) (of_eq_ (by kernel_rfl) h)

/-- shelfmark/sum.More -/
def S19 (a0 a1 : Value) (R : Value → World → Prop) (w : World) : Prop :=
  LiftP Try.prog (Instr.alloc 70 true (.tuple #[])) (fun v5 w =>
  LoopP (fun J vs w =>   -- [9]
    LiftP Try.prog (binS Go.BinOp.lss 3 (Go.Operand.tmp 9) (Go.Operand.const (Go.Value.int Go.IntKind.i64 16)) (vs.headD undef) (Go.Value.int Go.IntKind.i64 16)) (fun v10 w =>
    CondP v10 (fun w =>
      LiftP Try.prog (convert 3 22 (vs.headD undef)) (fun v14 w =>
    CallP Try.prog 45 #[v14] (fun v15 w =>
    LiftP Try.prog (Instr.indexAt 70 v5 (vs.headD undef)) (fun v16 w =>
    LiftU Try.prog (Instr.storeAt 22 v16 v15) (fun v_ w =>
    LiftP Try.prog (binS Go.BinOp.add 3 (Go.Operand.tmp 9) (Go.Operand.const (Go.Value.int Go.IntKind.i64 1)) (vs.headD undef) (Go.Value.int Go.IntKind.i64 1)) (fun v17 w =>
    J [v17] w) w) w) w) w) w) (fun w =>
      LiftP Try.prog (Op.unary Go.UnOp.xor a0) (fun v19 w =>
  NextP Try.prog (builtin Go.Builtin.len #[23] 3 #[false] #[a1]) (fun v21 w =>
  LoopP (fun J_1 vs_1 w =>   -- [0, 22]
    LiftP Try.prog (binS Go.BinOp.lss 3 (Go.Operand.tmp 22) (Go.Operand.tmp 21) (vs_1.tail.headD undef) v21) (fun v23 w =>
    CondP v23 (fun w =>
      LiftP Try.prog (Instr.indexAt 23 a1 (vs_1.tail.headD undef)) (fun v24 w =>
    LiftP Try.prog (Instr.loadAt 5 v24) (fun v25 w =>
    LiftP Try.prog (convert 5 22 v25) (fun v28 w =>
    LiftP Try.prog (binS Go.BinOp.xor 22 (Go.Operand.tmp 26) (Go.Operand.tmp 28) (vs_1.headD undef) v28) (fun v29 w =>
    LiftP Try.prog (binS Go.BinOp.shr 22 (Go.Operand.tmp 30) (Go.Operand.const (Go.Value.int Go.IntKind.u64 4)) v29 (Go.Value.int Go.IntKind.u64 4)) (fun v31 w =>
    LiftP Try.prog (binS Go.BinOp.and 22 (Go.Operand.tmp 32) (Go.Operand.const (Go.Value.int Go.IntKind.u32 15)) v29 (Go.Value.int Go.IntKind.u32 15)) (fun v33 w =>
    LiftP Try.prog (Instr.indexAt 70 v5 v33) (fun v34 w =>
    LiftP Try.prog (Instr.loadAt 22 v34) (fun v35 w =>
    LiftP Try.prog (binS Go.BinOp.xor 22 (Go.Operand.tmp 31) (Go.Operand.tmp 35) v31 v35) (fun v36 w =>
    LiftP Try.prog (binS Go.BinOp.shr 22 (Go.Operand.tmp 37) (Go.Operand.const (Go.Value.int Go.IntKind.u64 4)) v36 (Go.Value.int Go.IntKind.u64 4)) (fun v38 w =>
    LiftP Try.prog (binS Go.BinOp.and 22 (Go.Operand.tmp 39) (Go.Operand.const (Go.Value.int Go.IntKind.u32 15)) v36 (Go.Value.int Go.IntKind.u32 15)) (fun v40 w =>
    LiftP Try.prog (Instr.indexAt 70 v5 v40) (fun v41 w =>
    LiftP Try.prog (Instr.loadAt 22 v41) (fun v42 w =>
    LiftP Try.prog (binS Go.BinOp.xor 22 (Go.Operand.tmp 38) (Go.Operand.tmp 42) v38 v42) (fun v43 w =>
    LiftP Try.prog (binS Go.BinOp.add 3 (Go.Operand.tmp 22) (Go.Operand.const (Go.Value.int Go.IntKind.i64 1)) (vs_1.tail.headD undef) (Go.Value.int Go.IntKind.i64 1)) (fun v44 w =>
    J_1 [v43, v44] w) w) w) w) w) w) w) w) w) w) w) w) w) w) w) w) (fun w =>
      LiftP Try.prog (Op.unary Go.UnOp.xor (vs_1.headD undef)) (fun v46 w =>
  R v46 w) w) w) w) [v19, (Go.Value.int Go.IntKind.i64 0)] w) w) w) w) w) [(Go.Value.int Go.IntKind.i64 0)] w) w
theorem S19.calls (a0 a1 : Value) (R : Value → World → Prop) (w : World) (h : S19 a0 a1 R w) : Calls Try.prog 19 #[a0, a1] w fun e w' => ∃ v, e = .returned v ∧ R v w' :=
  calls_of_tr (n := 47) (c := bodyOf Try.f19) (.two .leaf (.two .leaf (.two (.two .leaf (.one (.loop [9] (.two .leaf (.two (.two .leaf .leaf) (.two (.one (.two .leaf .leaf)) .leaf)))))) (.two .leaf (.two (.two .leaf (.one (.loop [0, 22] (.two .leaf (.two (.two .leaf .leaf) (.two (.one (.two .leaf (.two .leaf (.two .leaf .leaf)))) .leaf)))))) (.two .leaf .leaf)))))) Try.func19 (by kernel_rfl) Try.ntmps19 (by kernel_rfl) (by kernel_rfl) [a0, a1] (by kernel_rfl) (of_eq_ (by kernel_rfl) h)

/-- shelfmark/shelfmarkref02.More -/
def S20 (a0 a1 : Value) (R : Value → World → Prop) (w : World) : Prop :=
  LiftP Try.prog (binS Go.BinOp.xor 22 (Go.Operand.tmp 8) (Go.Operand.const (Go.Value.int Go.IntKind.u32 4294967295)) a0 (Go.Value.int Go.IntKind.u32 4294967295)) (fun v9 w =>
  LoopP (fun J vs w =>   -- [5, 6]
    NextP Try.prog (builtin Go.Builtin.len #[23] 3 #[false] #[a1]) (fun v12 w =>
    LiftP Try.prog (binS Go.BinOp.lss 3 (Go.Operand.tmp 10) (Go.Operand.tmp 12) (vs.tail.headD undef) v12) (fun v13 w =>
    CondP v13 (fun w =>
      LiftP Try.prog (Instr.indexAt 23 a1 (vs.tail.headD undef)) (fun v19 w =>
    LiftP Try.prog (Instr.loadAt 5 v19) (fun v20 w =>
    LiftP Try.prog (convert 5 22 v20) (fun v21 w =>
    LiftP Try.prog (binS Go.BinOp.xor 22 (Go.Operand.tmp 16) (Go.Operand.tmp 21) (vs.headD undef) v21) (fun v22 w =>
    LoopP (fun J_1 vs_1 w =>   -- [5, 7]
      LiftP Try.prog (binS Go.BinOp.lss 3 (Go.Operand.tmp 23) (Go.Operand.const (Go.Value.int Go.IntKind.i64 8)) (vs_1.tail.headD undef) (Go.Value.int Go.IntKind.i64 8)) (fun v24 w =>
      CondP v24 (fun w =>
        JoinP (fun J_2 w =>
        LiftP Try.prog (binS Go.BinOp.rem 22 (Go.Operand.tmp 27) (Go.Operand.const (Go.Value.int Go.IntKind.u32 2)) (vs_1.headD undef) (Go.Value.int Go.IntKind.u32 2)) (fun v28 w =>
        LiftP Try.prog (binS Go.BinOp.eql 22 (Go.Operand.tmp 28) (Go.Operand.const (Go.Value.int Go.IntKind.u32 1)) v28 (Go.Value.int Go.IntKind.u32 1)) (fun v29 w =>
        CondP v29 (fun w =>
          LiftP Try.prog (binS Go.BinOp.quo 22 (Go.Operand.tmp 30) (Go.Operand.const (Go.Value.int Go.IntKind.u32 2)) (vs_1.headD undef) (Go.Value.int Go.IntKind.u32 2)) (fun v31 w =>
          LiftP Try.prog (binS Go.BinOp.xor 22 (Go.Operand.tmp 31) (Go.Operand.const (Go.Value.int Go.IntKind.u32 3988292384)) v31 (Go.Value.int Go.IntKind.u32 3988292384)) (fun v32 w =>
          J_2 [v32] w) w) w) (fun w =>
          LiftP Try.prog (binS Go.BinOp.quo 22 (Go.Operand.tmp 33) (Go.Operand.const (Go.Value.int Go.IntKind.u32 2)) (vs_1.headD undef) (Go.Value.int Go.IntKind.u32 2)) (fun v34 w =>
          J_2 [v34] w) w) w) w) w) (fun vs_2 w =>   -- [5]
      LiftP Try.prog (binS Go.BinOp.add 3 (Go.Operand.tmp 25) (Go.Operand.const (Go.Value.int Go.IntKind.i64 1)) (vs_1.tail.headD undef) (Go.Value.int Go.IntKind.i64 1)) (fun v26 w =>
      J_1 [(vs_2.headD undef), v26] w) w) w) (fun w =>
        LiftP Try.prog (binS Go.BinOp.add 3 (Go.Operand.tmp 14) (Go.Operand.const (Go.Value.int Go.IntKind.i64 1)) (vs.tail.headD undef) (Go.Value.int Go.IntKind.i64 1)) (fun v15 w =>
    J [(vs_1.headD undef), v15] w) w) w) w) [v22, (Go.Value.int Go.IntKind.i64 0)] w) w) w) w) w) (fun w =>
      LiftP Try.prog (binS Go.BinOp.xor 22 (Go.Operand.tmp 35) (Go.Operand.const (Go.Value.int Go.IntKind.u32 4294967295)) (vs.headD undef) (Go.Value.int Go.IntKind.u32 4294967295)) (fun v36 w =>
  R v36 w) w) w) w) w) [v9, (Go.Value.int Go.IntKind.i64 0)] w) w
theorem S20.calls (a0 a1 : Value) (R : Value → World → Prop) (w : World) (h : S20 a0 a1 R w) : Calls Try.prog 20 #[a0, a1] w fun e w' => ∃ v, e = .returned v ∧ R v w' :=
  calls_of_tr (n := 37) (c := bodyOf Try.f20) (.two .leaf (.two .leaf (.two (.two .leaf (.one (.loop [5, 6] (.two (.two .leaf (.two .leaf .leaf)) (.two (.one (.two .leaf (.two .leaf (.one (.loop [5, 7] (.two (.two .leaf (.two .leaf .leaf)) (.join [5] (.one (.two .leaf (.two .leaf .leaf))) .leaf))))))) .leaf))))) (.two .leaf .leaf)))) Try.func20 (by kernel_rfl) Try.ntmps20 (by kernel_rfl) (by kernel_rfl) [a0, a1] (by kernel_rfl) (of_eq_ (by kernel_rfl) h)

/-- shelfmark/sum.Put -/
def S21 (a0 : Value) (R : Value → World → Prop) (w : World) : Prop :=
  LiftP Try.prog (binS Go.BinOp.shr 22 (Go.Operand.tmp 3) (Go.Operand.const (Go.Value.int Go.IntKind.u64 24)) a0 (Go.Value.int Go.IntKind.u64 24)) (fun v4 w =>
  LiftP Try.prog (convert 22 5 v4) (fun v5 w =>
  LiftP Try.prog (binS Go.BinOp.shr 22 (Go.Operand.tmp 6) (Go.Operand.const (Go.Value.int Go.IntKind.u64 16)) a0 (Go.Value.int Go.IntKind.u64 16)) (fun v7 w =>
  LiftP Try.prog (convert 22 5 v7) (fun v8 w =>
  LiftP Try.prog (binS Go.BinOp.shr 22 (Go.Operand.tmp 9) (Go.Operand.const (Go.Value.int Go.IntKind.u64 8)) a0 (Go.Value.int Go.IntKind.u64 8)) (fun v10 w =>
  LiftP Try.prog (convert 22 5 v10) (fun v11 w =>
  LiftP Try.prog (convert 22 5 a0) (fun v13 w =>
  LiftP Try.prog (Instr.buildSlice 23 4 #[(0, v5), (1, v8), (2, v11), (3, v13)]) (fun v14 w =>
  R v14 w) w) w) w) w) w) w) w) w
theorem S21.calls (a0 : Value) (R : Value → World → Prop) (w : World) (h : S21 a0 R w) : Calls Try.prog 21 #[a0] w fun e w' => ∃ v, e = .returned v ∧ R v w' :=
  calls_of_tr (n := 15) (c := bodyOf Try.f21) (.two .leaf (.two .leaf .leaf)) Try.func21 (by kernel_rfl) Try.ntmps21 (by kernel_rfl) (by kernel_rfl) [a0] (by kernel_rfl) (of_eq_ (by kernel_rfl) h)

/-- shelfmark/sum.Get -/
def S22 (a0 a1 : Value) (R : Value → World → Prop) (w : World) : Prop :=
  LiftP Try.prog (binS Go.BinOp.lss 3 (Go.Operand.tmp 10) (Go.Operand.const (Go.Value.int Go.IntKind.i64 0)) a1 (Go.Value.int Go.IntKind.i64 0)) (fun v11 w =>
  GuardP v11 false (fun K w => K a1 w) (fun v13 w =>
  GuardP v11 false (fun K w => K a0 w) (fun v14 w =>
  GuardP v11 false (fun K w => NextP Try.prog (builtin Go.Builtin.len #[23] 3 #[false] #[v14]) K w) (fun v15 w =>
  GuardP v11 false (fun K w => LiftP Try.prog (binS Go.BinOp.gtr 3 (Go.Operand.tmp 13) (Go.Operand.tmp 15) v13 v15) K w) (fun v16 w =>
  PickP v11 (Go.Value.bool true) v16 (fun v17 w =>
  CondP v17 (fun w =>
    R (.tuple #[(Go.Value.int Go.IntKind.u32 0), (Go.Value.int Go.IntKind.i64 1)]) w) (fun w =>
    NextP Try.prog (builtin Go.Builtin.len #[23] 3 #[false] #[a0]) (fun v20 w =>
    LiftP Try.prog (binS Go.BinOp.sub 3 (Go.Operand.tmp 20) (Go.Operand.tmp 21) v20 a1) (fun v22 w =>
    LiftP Try.prog (binS Go.BinOp.lss 3 (Go.Operand.tmp 22) (Go.Operand.const (Go.Value.int Go.IntKind.i64 4)) v22 (Go.Value.int Go.IntKind.i64 4)) (fun v23 w =>
    CondP v23 (fun w =>
      R (.tuple #[(Go.Value.int Go.IntKind.u32 0), (Go.Value.int Go.IntKind.i64 2)]) w) (fun w =>
      LiftP Try.prog (binS Go.BinOp.add 3 (Go.Operand.tmp 26) (Go.Operand.const (Go.Value.int Go.IntKind.i64 4)) a1 (Go.Value.int Go.IntKind.i64 4)) (fun v27 w =>
  LiftP Try.prog (Instr.sliceAt 23 a0 (some a1) (some v27) none) (fun v28 w =>
  NextP Try.prog (builtin Go.Builtin.len #[23] 3 #[false] #[v28]) (fun v29 w =>
  LoopP (fun J vs w =>   -- [6, 30]
    LiftP Try.prog (binS Go.BinOp.lss 3 (Go.Operand.tmp 30) (Go.Operand.tmp 29) (vs.tail.headD undef) v29) (fun v31 w =>
    CondP v31 (fun w =>
      LiftP Try.prog (Instr.indexAt 23 v28 (vs.tail.headD undef)) (fun v32 w =>
    LiftP Try.prog (Instr.loadAt 5 v32) (fun v33 w =>
    LiftP Try.prog (binS Go.BinOp.shl 22 (Go.Operand.tmp 34) (Go.Operand.const (Go.Value.int Go.IntKind.u64 8)) (vs.headD undef) (Go.Value.int Go.IntKind.u64 8)) (fun v35 w =>
    LiftP Try.prog (convert 5 22 v33) (fun v37 w =>
    LiftP Try.prog (binS Go.BinOp.or 22 (Go.Operand.tmp 35) (Go.Operand.tmp 37) v35 v37) (fun v38 w =>
    LiftP Try.prog (binS Go.BinOp.add 3 (Go.Operand.tmp 30) (Go.Operand.const (Go.Value.int Go.IntKind.i64 1)) (vs.tail.headD undef) (Go.Value.int Go.IntKind.i64 1)) (fun v39 w =>
    J [v38, v39] w) w) w) w) w) w) w) (fun w =>
      R (.tuple #[(vs.headD undef), (Go.Value.int Go.IntKind.i64 0)]) w) w) w) [(Go.Value.int Go.IntKind.u32 0), (Go.Value.int Go.IntKind.i64 0)] w) w) w) w) w) w) w) w) w) w) w) w) w) w) w
theorem S22.calls (a0 a1 : Value) (R : Value → World → Prop) (w : World) (h : S22 a0 a1 R w) : Calls Try.prog 22 #[a0, a1] w fun e w' => ∃ v, e = .returned v ∧ R v w' :=
  calls_of_tr (n := 41) (c := bodyOf Try.f22) (.two .leaf (.two (.one (.two .leaf (.two (.two .leaf .leaf) (.two .leaf (.two (.two .leaf .leaf) .leaf))))) (.two .leaf (.two (.two .leaf (.one (.loop [6, 30] (.two .leaf (.two (.two .leaf .leaf) (.two (.one (.two .leaf .leaf)) .leaf)))))) (.two .leaf .leaf))))) Try.func22 (by kernel_rfl) Try.ntmps22 (by kernel_rfl) (by kernel_rfl) [a0, a1] (by kernel_rfl) (of_eq_ (by kernel_rfl) h)

/-- shelfmark/shelfmarkref02.Put -/
def S23 (a0 : Value) (R : Value → World → Prop) (w : World) : Prop :=
  LiftP Try.prog (binS Go.BinOp.quo 22 (Go.Operand.tmp 3) (Go.Operand.const (Go.Value.int Go.IntKind.u32 16777216)) a0 (Go.Value.int Go.IntKind.u32 16777216)) (fun v4 w =>
  LiftP Try.prog (convert 22 5 v4) (fun v5 w =>
  LiftP Try.prog (binS Go.BinOp.quo 22 (Go.Operand.tmp 6) (Go.Operand.const (Go.Value.int Go.IntKind.u32 65536)) a0 (Go.Value.int Go.IntKind.u32 65536)) (fun v7 w =>
  LiftP Try.prog (binS Go.BinOp.rem 22 (Go.Operand.tmp 7) (Go.Operand.const (Go.Value.int Go.IntKind.u32 256)) v7 (Go.Value.int Go.IntKind.u32 256)) (fun v8 w =>
  LiftP Try.prog (convert 22 5 v8) (fun v9 w =>
  LiftP Try.prog (binS Go.BinOp.quo 22 (Go.Operand.tmp 10) (Go.Operand.const (Go.Value.int Go.IntKind.u32 256)) a0 (Go.Value.int Go.IntKind.u32 256)) (fun v11 w =>
  LiftP Try.prog (binS Go.BinOp.rem 22 (Go.Operand.tmp 11) (Go.Operand.const (Go.Value.int Go.IntKind.u32 256)) v11 (Go.Value.int Go.IntKind.u32 256)) (fun v12 w =>
  LiftP Try.prog (convert 22 5 v12) (fun v13 w =>
  LiftP Try.prog (binS Go.BinOp.rem 22 (Go.Operand.tmp 14) (Go.Operand.const (Go.Value.int Go.IntKind.u32 256)) a0 (Go.Value.int Go.IntKind.u32 256)) (fun v15 w =>
  LiftP Try.prog (convert 22 5 v15) (fun v16 w =>
  LiftP Try.prog (Instr.buildSlice 23 4 #[(0, v5), (1, v9), (2, v13), (3, v16)]) (fun v17 w =>
  R v17 w) w) w) w) w) w) w) w) w) w) w) w
theorem S23.calls (a0 : Value) (R : Value → World → Prop) (w : World) (h : S23 a0 R w) : Calls Try.prog 23 #[a0] w fun e w' => ∃ v, e = .returned v ∧ R v w' :=
  calls_of_tr (n := 18) (c := bodyOf Try.f23) (.two .leaf (.two .leaf .leaf)) Try.func23 (by kernel_rfl) Try.ntmps23 (by kernel_rfl) (by kernel_rfl) [a0] (by kernel_rfl) (of_eq_ (by kernel_rfl) h)

/-- shelfmark/sum.nibble -/
def S45 (a0 : Value) (R : Value → World → Prop) (w : World) : Prop :=
  LoopP (fun J vs w =>   -- [0, 3]
    LiftP Try.prog (binS Go.BinOp.lss 3 (Go.Operand.tmp 3) (Go.Operand.const (Go.Value.int Go.IntKind.i64 4)) (vs.tail.headD undef) (Go.Value.int Go.IntKind.i64 4)) (fun v4 w =>
    CondP v4 (fun w =>
      LiftP Try.prog (binS Go.BinOp.shr 22 (Go.Operand.tmp 5) (Go.Operand.const (Go.Value.int Go.IntKind.u64 1)) (vs.headD undef) (Go.Value.int Go.IntKind.u64 1)) (fun v6 w =>
    LiftP Try.prog (binS Go.BinOp.and 22 (Go.Operand.tmp 7) (Go.Operand.const (Go.Value.int Go.IntKind.u32 1)) (vs.headD undef) (Go.Value.int Go.IntKind.u32 1)) (fun v8 w =>
    LiftP Try.prog (Op.unary Go.UnOp.neg v8) (fun v9 w =>
    LiftP Try.prog (binS Go.BinOp.and 22 (Go.Operand.const (Go.Value.int Go.IntKind.u32 3988292384)) (Go.Operand.tmp 9) (Go.Value.int Go.IntKind.u32 3988292384) v9) (fun v10 w =>
    LiftP Try.prog (binS Go.BinOp.xor 22 (Go.Operand.tmp 6) (Go.Operand.tmp 10) v6 v10) (fun v11 w =>
    LiftP Try.prog (binS Go.BinOp.add 3 (Go.Operand.tmp 3) (Go.Operand.const (Go.Value.int Go.IntKind.i64 1)) (vs.tail.headD undef) (Go.Value.int Go.IntKind.i64 1)) (fun v12 w =>
    J [v11, v12] w) w) w) w) w) w) w) (fun w =>
      R (vs.headD undef) w) w) w) [a0, (Go.Value.int Go.IntKind.i64 0)] w
theorem S45.calls (a0 : Value) (R : Value → World → Prop) (w : World) (h : S45 a0 R w) : Calls Try.prog 45 #[a0] w fun e w' => ∃ v, e = .returned v ∧ R v w' :=
  calls_of_tr (n := 14) (c := bodyOf Try.f45) (.two .leaf (.two (.two .leaf (.one (.loop [0, 3] (.two .leaf (.two (.two .leaf .leaf) (.two (.one .leaf) .leaf)))))) (.two .leaf .leaf))) Try.func45 (by kernel_rfl) Try.ntmps45 (by kernel_rfl) (by kernel_rfl) [a0] (by kernel_rfl) (of_eq_ (by kernel_rfl) h)

end Go.Proofs.Ytgaamfdhjpkicaa.E
