import Derived.Test.YtadbpelpbaikiaaM1
import Derived.Test.YtadbpelpbaikiaaProg
import Derived.KernelRfl
namespace Go.Proofs.Ytadbpelpbaikiaa.E
open Go
set_option maxRecDepth 100000

/-- shelfmark/shelfmarklaw08.VaultForms -/
def S3 (a0 : Value) (R : Value → World → Prop) (w : World) : Prop :=
  CallP Try.prog 7 #[] (fun v10 w =>
  LiftP Try.prog (Op.unary Go.UnOp.not v10) (fun v11 w =>
  CondP v11 (fun w =>
    R (Go.Value.bool false) w) (fun w =>
    NextP Try.prog (builtin Go.Builtin.len #[22] 3 #[false] #[a0]) (fun v13 w =>
  LiftP Try.prog (binS Go.BinOp.gtr 3 (Go.Operand.tmp 13) (Go.Operand.const (Go.Value.int Go.IntKind.i64 1000)) v13 (Go.Value.int Go.IntKind.i64 1000)) (fun v14 w =>
  CondP v14 (fun w =>
    R (Go.Value.bool true) w) (fun w =>
    CallP Try.prog 8 #[(Go.Value.int Go.IntKind.i64 4194304)] (fun v16 w =>
  LiftP Try.prog (Instr.extract v16 0) (fun v17 w =>
  LiftP Try.prog (Instr.extract v16 1) (fun v18 w =>
  LiftP Try.prog (binS Go.BinOp.eql 24 (Go.Operand.tmp 19) (Go.Operand.const (Go.Value.pointer none)) v17 (Go.Value.pointer none)) (fun v20 w =>
  CondP v20 (fun w =>
    R (Go.Value.bool false) w) (fun w =>
    CallP Try.prog 9 #[v17] (fun v22 w =>
  CallP Try.prog 10 #[v17, a0] (fun v25 w =>
  LiftP Try.prog (Instr.build 37 #[]) (fun v28 w =>
  LiftP Try.prog (Instr.box 37 v28) (fun v29 w =>
  LiftP Try.prog (Instr.makeInterface 35 v29) (fun v30 w =>
  CallP Try.prog 11 #[v17, v30] (fun v31 w =>
  LiftP Try.prog (Instr.extract v31 0) (fun v32 w =>
  LiftP Try.prog (Instr.extract v31 1) (fun v33 w =>
  LiftP Try.prog (binS Go.BinOp.neq 32 (Go.Operand.tmp 34) (Go.Operand.const (Go.Value.pointer none)) v32 (Go.Value.pointer none)) (fun v35 w =>
  GuardP v35 false (fun K w => K v33 w) (fun v37 w =>
  GuardP v35 false (fun K w => LiftP Try.prog (binS Go.BinOp.neq 25 (Go.Operand.tmp 37) (Go.Operand.const (Go.Value.int Go.IntKind.i64 8)) v37 (Go.Value.int Go.IntKind.i64 8)) K w) (fun v38 w =>
  PickP v35 (Go.Value.bool true) v38 (fun v39 w =>
  CondP v39 (fun w =>
    R (Go.Value.bool false) w) (fun w =>
    CallP Try.prog 12 #[v17, (Go.Value.int Go.IntKind.i64 0), (Go.Value.int Go.IntKind.i64 0)] (fun v41 w =>
  LiftP Try.prog (Instr.build 37 #[]) (fun v42 w =>
  LiftP Try.prog (Instr.box 37 v42) (fun v43 w =>
  LiftP Try.prog (Instr.makeInterface 35 v43) (fun v47 w =>
  CallP Try.prog 11 #[v17, v47] (fun v48 w =>
  LiftP Try.prog (Instr.extract v48 0) (fun v49 w =>
  LiftP Try.prog (Instr.extract v48 1) (fun v50 w =>
  NextP Try.prog (builtin Go.Builtin.len #[22] 3 #[false] #[a0]) (fun v52 w =>
  LiftP Try.prog (binS Go.BinOp.gtr 3 (Go.Operand.tmp 52) (Go.Operand.const (Go.Value.int Go.IntKind.i64 0)) v52 (Go.Value.int Go.IntKind.i64 0)) (fun v53 w =>
  GuardP v53 true (fun K w => K a0 w) (fun v55 w =>
  GuardP v53 true (fun K w => LiftP Try.prog (Instr.indexAt 22 v55 (Go.Value.int Go.IntKind.i64 0)) K w) (fun v56 w =>
  GuardP v53 true (fun K w => LiftP Try.prog (Instr.loadAt 5 v56) K w) (fun v57 w =>
  GuardP v53 true (fun K w => LiftP Try.prog (binS Go.BinOp.neq 5 (Go.Operand.tmp 57) (Go.Operand.const (Go.Value.int Go.IntKind.u8 61)) v57 (Go.Value.int Go.IntKind.u8 61)) K w) (fun v58 w =>
  PickP v53 v58 (Go.Value.bool false) (fun v59 w =>
  CondP v59 (fun w =>
    LiftP Try.prog (binS Go.BinOp.eql 32 (Go.Operand.tmp 60) (Go.Operand.const (Go.Value.pointer none)) v49 (Go.Value.pointer none)) (fun v61 w =>
    GuardP v61 true (fun K w => K v50 w) (fun v63 w =>
    GuardP v61 true (fun K w => LiftP Try.prog (binS Go.BinOp.eql 25 (Go.Operand.tmp 63) (Go.Operand.const (Go.Value.int Go.IntKind.i64 3)) v63 (Go.Value.int Go.IntKind.i64 3)) K w) (fun v64 w =>
    PickP v61 v64 (Go.Value.bool false) (fun v65 w =>
    GuardP v65 true (fun K w => K v17 w) (fun v67 w =>
    GuardP v65 true (fun K w => CallP Try.prog 13 #[v67] K w) (fun v68 w =>
    PickP v65 v68 (Go.Value.bool false) (fun v69 w =>
    R v69 w) w) w) w) w) w) w) w) (fun w =>
    DrawP (fun S w =>
  YieldP Try.prog S (binS Go.BinOp.neq 32 (Go.Operand.tmp 70) (Go.Operand.const (Go.Value.pointer none)) v49 (Go.Value.pointer none)) (fun v71 w =>
  GuardP v71 true (fun K w => K v50 w) (fun v73 w =>
  GuardP v71 true (fun K w => YieldP Try.prog S (binS Go.BinOp.eql 25 (Go.Operand.tmp 73) (Go.Operand.const (Go.Value.int Go.IntKind.i64 0)) v73 (Go.Value.int Go.IntKind.i64 0)) K w) (fun v74 w =>
  PickP v71 v74 (Go.Value.bool false) (fun v75 w =>
  GuardP v75 true (fun K w => K v49 w) (fun v77 w =>
  GuardA v75 true S (fun K w => CallP Try.prog 14 #[v77] K w) (fun S v78 w =>
  GuardP v75 true (fun K w => YieldP Try.prog S (binS Go.BinOp.eql 3 (Go.Operand.tmp 78) (Go.Operand.const (Go.Value.int Go.IntKind.i64 0)) v78 (Go.Value.int Go.IntKind.i64 0)) K w) (fun v79 w =>
  PickP v75 v79 (Go.Value.bool false) (fun v80 w =>
  GuardP v80 true (fun K w => K a0 w) (fun v82 w =>
  GuardP v80 true (fun K w => YieldN Try.prog S (builtin Go.Builtin.len #[22] 3 #[false] #[v82]) K w) (fun v83 w =>
  GuardP v80 true (fun K w => YieldP Try.prog S (binS Go.BinOp.eql 3 (Go.Operand.tmp 83) (Go.Operand.const (Go.Value.int Go.IntKind.i64 0)) v83 (Go.Value.int Go.IntKind.i64 0)) K w) (fun v84 w =>
  GuardP v80 true (fun K w => K v84 w) (fun v85 w =>
  GuardP v85 true (fun K w => K v43 w) (fun v86 w =>
  GuardP v85 true (fun K w => YieldN Try.prog S (nilChk v86) K w) (fun v87 w =>
  GuardP v85 true (fun K w => YieldP Try.prog S (Instr.fieldAt 37 v87 0) K w) (fun v88 w =>
  GuardP v85 true (fun K w => YieldP Try.prog S (Instr.loadAt 9 v88) K w) (fun v89 w =>
  GuardP v85 true (fun K w => YieldP Try.prog S (binS Go.BinOp.eql 9 (Go.Operand.tmp 89) (Go.Operand.const (Go.Value.string { data := #[] })) v89 (Go.Value.string { data := #[] })) K w) (fun v90 w =>
  GuardP v80 true (fun K w => PickP v85 v90 (Go.Value.bool false) K w) (fun v91 w =>
  GuardP v80 true (fun K w => K v91 w) (fun v92 w =>
  GuardP v92 false (fun K w => K a0 w) (fun v93 w =>
  GuardP v92 false (fun K w => YieldN Try.prog S (builtin Go.Builtin.len #[22] 3 #[false] #[v93]) K w) (fun v94 w =>
  GuardP v92 false (fun K w => YieldP Try.prog S (binS Go.BinOp.gtr 3 (Go.Operand.tmp 94) (Go.Operand.const (Go.Value.int Go.IntKind.i64 0)) v94 (Go.Value.int Go.IntKind.i64 0)) K w) (fun v95 w =>
  GuardP v92 false (fun K w => K v95 w) (fun v96 w =>
  GuardP v96 true (fun K w => K v43 w) (fun v97 w =>
  GuardP v96 true (fun K w => YieldN Try.prog S (nilChk v97) K w) (fun v98 w =>
  GuardP v96 true (fun K w => YieldP Try.prog S (Instr.fieldAt 37 v98 0) K w) (fun v99 w =>
  GuardP v96 true (fun K w => YieldP Try.prog S (Instr.loadAt 9 v99) K w) (fun v100 w =>
  GuardP v96 true (fun K w => K a0 w) (fun v101 w =>
  GuardP v96 true (fun K w => YieldP Try.prog S (Instr.sliceAt 22 v101 (some (Go.Value.int Go.IntKind.i64 1)) none none) K w) (fun v102 w =>
  GuardP v96 true (fun K w => YieldP Try.prog S (convert 22 9 v102) K w) (fun v103 w =>
  GuardP v96 true (fun K w => YieldP Try.prog S (binS Go.BinOp.eql 9 (Go.Operand.tmp 100) (Go.Operand.tmp 103) v100 v103) K w) (fun v104 w =>
  GuardP v92 false (fun K w => PickP v96 v104 (Go.Value.bool false) K w) (fun v105 w =>
  GuardP v80 true (fun K w => PickP v92 (Go.Value.bool true) v105 K w) (fun v106 w =>
  PickP v80 v106 (Go.Value.bool false) (fun v107 w =>
  R v107 w) w) w) w) w) w) w) w) w) w) w) w) w) w) w) w) w) w) w) w) w) w) w) w) w) w) w) w) w) w) w) w) w) w) w) w) w) w) w) w) w) w) w) w) w) w) w) w) w) w) w) w) w) w) w) w) w) w) w) w) w) w) w) w) w) w) w) w) w) w) w) w) w) w) w
theorem S3.calls (a0 : Value) (R : Value → World → Prop) (w : World) (h : S3 a0 R w) : Calls Try.prog 3 #[a0] w fun e w' => ∃ v, e = .returned v ∧ R v w' :=
  calls_of_tr (n := 108) (c := bodyOf Try.f3) (.two .leaf (.two (.two .leaf (.two (.two .leaf .leaf) .leaf)) (.two (.two .leaf (.two (.two .leaf .leaf) .leaf)) (.two .leaf (.two (.two .leaf (.two (.two .leaf .leaf) .leaf)) (.two .leaf (.two .leaf (.two (.two .leaf (.two .leaf (.two (.two .leaf .leaf) .leaf))) (.two .leaf (.two .leaf (.two .leaf (.two (.two .leaf (.two (.two .leaf .leaf) .leaf)) (.two (.draw [(true, 0), (true, 1), (true, 2), (true, 3), (true, 4), (true, 5), (true, 6), (true, 7), (false, 8), (true, 9), (true, 10), (true, 11), (true, 12), (true, 13), (true, 14), (true, 15), (true, 16), (true, 17), (true, 18), (true, 19), (true, 20), (true, 21), (true, 22), (true, 23), (true, 24), (true, 25), (true, 26), (true, 27), (true, 28), (true, 29), (true, 30), (true, 31), (true, 32), (true, 33), (true, 34), (true, 35), (true, 36), (true, 37), (true, 38)]) .leaf))))))))))))) Try.func3 (by kernel_rfl) Try.ntmps3 (by kernel_rfl) (by kernel_rfl) [a0] (by kernel_rfl) (of_eq_ (by kernel_rfl) h)

/-- shelfmark/shelfmarklaw08.awake -/
def S7 (R : Value → World → Prop) (w : World) : Prop :=
  CallP Try.prog 8 #[(Go.Value.int Go.IntKind.i64 1000)] (fun v9 w =>
  LiftP Try.prog (Instr.extract v9 0) (fun v10 w =>
  LiftP Try.prog (Instr.extract v9 1) (fun v11 w =>
  CallP Try.prog 16 #[v10] (fun v14 w =>
  LiftP Try.prog (Instr.extract v14 0) (fun v15 w =>
  LiftP Try.prog (Instr.extract v14 1) (fun v16 w =>
  LiftP Try.prog (binS Go.BinOp.eql 32 (Go.Operand.tmp 17) (Go.Operand.const (Go.Value.pointer none)) v15 (Go.Value.pointer none)) (fun v18 w =>
  CondP v18 (fun w =>
    R (Go.Value.bool false) w) (fun w =>
    CallP Try.prog 17 #[v15, (Go.Value.string { data := #[97] })] (fun v21 w =>
  LiftP Try.prog (Instr.extract v21 0) (fun v22 w =>
  LiftP Try.prog (Instr.extract v21 1) (fun v23 w =>
  CallP Try.prog 19 #[v15] (fun v25 w =>
  CallP Try.prog 17 #[v15, (Go.Value.string { data := #[98] })] (fun v27 w =>
  CallP Try.prog 12 #[v10, (Go.Value.int Go.IntKind.i64 0), (Go.Value.int Go.IntKind.i64 0)] (fun v29 w =>
  CallP Try.prog 16 #[v10] (fun v32 w =>
  LiftP Try.prog (Instr.extract v32 0) (fun v33 w =>
  LiftP Try.prog (Instr.extract v32 1) (fun v34 w =>
  LiftP Try.prog (binS Go.BinOp.neq 32 (Go.Operand.tmp 35) (Go.Operand.const (Go.Value.pointer none)) v33 (Go.Value.pointer none)) (fun v36 w =>
  GuardP v36 true (fun K w => K v22 w) (fun v38 w =>
  GuardP v36 true (fun K w => LiftP Try.prog (binS Go.BinOp.eql 9 (Go.Operand.tmp 38) (Go.Operand.const (Go.Value.string { data := #[48] })) v38 (Go.Value.string { data := #[48] })) K w) (fun v39 w =>
  PickP v36 v39 (Go.Value.bool false) (fun v40 w =>
  GuardP v40 true (fun K w => K v23 w) (fun v42 w =>
  GuardP v40 true (fun K w => LiftP Try.prog (binS Go.BinOp.eql 25 (Go.Operand.tmp 42) (Go.Operand.const (Go.Value.int Go.IntKind.i64 0)) v42 (Go.Value.int Go.IntKind.i64 0)) K w) (fun v43 w =>
  PickP v40 v43 (Go.Value.bool false) (fun v44 w =>
  GuardP v44 true (fun K w => K v34 w) (fun v46 w =>
  GuardP v44 true (fun K w => NextP Try.prog (nilChk v46) K w) (fun v47 w =>
  GuardP v44 true (fun K w => LiftP Try.prog (Instr.fieldAt 37 v47 0) K w) (fun v48 w =>
  GuardP v44 true (fun K w => LiftP Try.prog (Instr.loadAt 9 v48) K w) (fun v49 w =>
  GuardP v44 true (fun K w => LiftP Try.prog (binS Go.BinOp.eql 9 (Go.Operand.tmp 49) (Go.Operand.const (Go.Value.string { data := #[97, 124] })) v49 (Go.Value.string { data := #[97, 124] })) K w) (fun v50 w =>
  PickP v44 v50 (Go.Value.bool false) (fun v51 w =>
  GuardP v51 true (fun K w => K v33 w) (fun v53 w =>
  GuardP v51 true (fun K w => CallP Try.prog 14 #[v53] K w) (fun v54 w =>
  GuardP v51 true (fun K w => LiftP Try.prog (binS Go.BinOp.eql 3 (Go.Operand.tmp 54) (Go.Operand.const (Go.Value.int Go.IntKind.i64 1)) v54 (Go.Value.int Go.IntKind.i64 1)) K w) (fun v55 w =>
  PickP v51 v55 (Go.Value.bool false) (fun v56 w =>
  R v56 w) w) w) w) w) w) w) w) w) w) w) w) w) w) w) w) w) w) w) w) w) w) w) w) w) w) w) w) w) w) w) w) w) w) w
theorem S7.calls (R : Value → World → Prop) (w : World) (h : S7 R w) : Calls Try.prog 7 #[] w fun e w' => ∃ v, e = .returned v ∧ R v w' :=
  calls_of_tr (n := 57) (c := bodyOf Try.f7) (.two .leaf (.two .leaf (.two .leaf (.two (.two .leaf (.two (.two .leaf .leaf) .leaf)) (.two .leaf (.two .leaf (.two .leaf (.two .leaf (.two .leaf (.two .leaf .leaf)))))))))) Try.func7 (by kernel_rfl) Try.ntmps7 (by kernel_rfl) (by kernel_rfl) [] (by kernel_rfl) (of_eq_ (by kernel_rfl) h)

/-- shelfmark/vault.Open -/
def S11 (a0 a1 : Value) (R : Value → World → Prop) (w : World) : Prop :=
  CallP Try.prog 9 #[a0] (fun v12 w =>
  LiftP Try.prog (Instr.extract v12 0) (fun v13 w =>
  LiftP Try.prog (Instr.extract v12 1) (fun v14 w =>
  LiftP Try.prog (Instr.extract v12 2) (fun v15 w =>
  LiftP Try.prog (binS Go.BinOp.neq 25 (Go.Operand.tmp 17) (Go.Operand.const (Go.Value.int Go.IntKind.i64 0)) v15 (Go.Value.int Go.IntKind.i64 0)) (fun v18 w =>
  CondP v18 (fun w =>
    R (.tuple #[(Go.Value.pointer none), v15]) w) (fun w =>
    NextP Try.prog (builtin Go.Builtin.len #[22] 3 #[false] #[v13]) (fun v22 w =>
    LiftP Try.prog (binS Go.BinOp.gtr 3 (Go.Operand.tmp 22) (Go.Operand.const (Go.Value.int Go.IntKind.i64 0)) v22 (Go.Value.int Go.IntKind.i64 0)) (fun v23 w =>
    GuardP v23 true (fun K w => K a1 w) (fun v25 w =>
    GuardP v23 true (fun K w => K v13 w) (fun v26 w =>
    GuardP v23 true (fun K w => LiftP Try.prog (convert 22 9 v26) K w) (fun v27 w =>
    GuardP v23 true (fun K w => NextP Try.prog (invoke (.fn (.method "Load") #[]) (#[v25] ++ #[v27])) K w) (fun v28 w =>
    GuardP v23 true (fun K w => LiftP Try.prog (Op.unary Go.UnOp.not v28) K w) (fun v29 w =>
    PickP v23 v29 (Go.Value.bool false) (fun v30 w =>
    CondP v30 (fun w =>
      R (.tuple #[(Go.Value.pointer none), (Go.Value.int Go.IntKind.i64 3)]) w) (fun w =>
      LiftP Try.prog (Instr.build 66 #[(0, a0), (1, a1)]) (fun v33 w =>
  LiftP Try.prog (Instr.box 66 v33) (fun v34 w =>
  LiftP Try.prog (Instr.makeFunc (Go.Fn.func 31) #[v34] #[]) (fun v37 w =>
  CallP Try.prog 30 #[v14, v37] (fun v38 w =>
  R (.tuple #[v34, (Go.Value.int Go.IntKind.i64 0)]) w) w) w) w) w) w) w) w) w) w) w) w) w) w) w) w) w) w) w) w
theorem S11.calls (a0 a1 : Value) (R : Value → World → Prop) (w : World) (h : S11 a0 a1 R w) : Calls Try.prog 11 #[a0, a1] w fun e w' => ∃ v, e = .returned v ∧ R v w' :=
  calls_of_tr (n := 40) (c := bodyOf Try.f11) (.two .leaf (.two .leaf (.two (.one (.two .leaf (.two (.two .leaf .leaf) (.two .leaf (.two (.two .leaf .leaf) .leaf))))) (.two .leaf (.two .leaf (.two .leaf .leaf)))))) Try.func11 (by kernel_rfl) Try.ntmps11 (by kernel_rfl) (by kernel_rfl) [a0, a1] (by kernel_rfl) (of_eq_ (by kernel_rfl) h)

/-- (*shelfmark/vault.Vault).Count -/
def S14 (a0 : Value) (R : Value → World → Prop) (w : World) : Prop :=
  NextP Try.prog (nilChk a0) (fun v4 w =>
  LiftP Try.prog (Instr.fieldAt 66 v4 2) (fun v5 w =>
  LiftP Try.prog (Instr.loadAt 3 v5) (fun v6 w =>
  R v6 w) w) w) w
theorem S14.calls (a0 : Value) (R : Value → World → Prop) (w : World) (h : S14 a0 R w) : Calls Try.prog 14 #[a0] w fun e w' => ∃ v, e = .returned v ∧ R v w' :=
  calls_of_tr (n := 7) (c := bodyOf Try.f14) (.two .leaf (.two .leaf .leaf)) Try.func14 (by kernel_rfl) Try.ntmps14 (by kernel_rfl) (by kernel_rfl) [a0] (by kernel_rfl) (of_eq_ (by kernel_rfl) h)

/-- shelfmark/shelfmarklaw08.opened -/
def S16 (a0 : Value) (R : Value → World → Prop) (w : World) : Prop :=
  LiftP Try.prog (Instr.build 37 #[]) (fun v7 w =>
  LiftP Try.prog (Instr.box 37 v7) (fun v8 w =>
  LiftP Try.prog (binS Go.BinOp.eql 24 (Go.Operand.tmp 9) (Go.Operand.const (Go.Value.pointer none)) a0 (Go.Value.pointer none)) (fun v10 w =>
  CondP v10 (fun w =>
    R (.tuple #[(Go.Value.pointer none), v8]) w) (fun w =>
    LiftP Try.prog (Instr.makeInterface 35 v8) (fun v15 w =>
  CallP Try.prog 11 #[a0, v15] (fun v16 w =>
  LiftP Try.prog (Instr.extract v16 0) (fun v17 w =>
  LiftP Try.prog (Instr.extract v16 1) (fun v18 w =>
  LiftP Try.prog (binS Go.BinOp.neq 25 (Go.Operand.tmp 19) (Go.Operand.const (Go.Value.int Go.IntKind.i64 0)) v18 (Go.Value.int Go.IntKind.i64 0)) (fun v20 w =>
  CondP v20 (fun w =>
    R (.tuple #[(Go.Value.pointer none), v8]) w) (fun w =>
    R (.tuple #[v17, v8]) w) w) w) w) w) w) w) w) w) w) w
theorem S16.calls (a0 : Value) (R : Value → World → Prop) (w : World) (h : S16 a0 R w) : Calls Try.prog 16 #[a0] w fun e w' => ∃ v, e = .returned v ∧ R v w' :=
  calls_of_tr (n := 24) (c := bodyOf Try.f16) (.two .leaf (.two .leaf (.two (.two .leaf (.two (.two .leaf .leaf) .leaf)) (.two .leaf (.two (.two .leaf (.two (.two .leaf .leaf) .leaf)) (.two .leaf .leaf)))))) Try.func16 (by kernel_rfl) Try.ntmps16 (by kernel_rfl) (by kernel_rfl) [a0] (by kernel_rfl) (of_eq_ (by kernel_rfl) h)

/-- (*shelfmark/vault.Vault).Do -/
def S17 (a0 a1 : Value) (R : Value → World → Prop) (w : World) : Prop :=
  NextP Try.prog (nilChk a0) (fun v8 w =>
  LiftP Try.prog (Instr.fieldAt 66 v8 0) (fun v9 w =>
  LiftP Try.prog (Instr.loadAt 24 v9) (fun v10 w =>
  LiftP Try.prog (convert 9 22 a1) (fun v12 w =>
  CallP Try.prog 32 #[v10, v12] (fun v13 w =>
  LiftP Try.prog (binS Go.BinOp.neq 25 (Go.Operand.tmp 14) (Go.Operand.const (Go.Value.int Go.IntKind.i64 0)) v13 (Go.Value.int Go.IntKind.i64 0)) (fun v15 w =>
  CondP v15 (fun w =>
    R (.tuple #[(Go.Value.string { data := #[] }), v13]) w) (fun w =>
    CallP Try.prog 31 #[a0, a1] (fun v19 w =>
  R (.tuple #[v19, (Go.Value.int Go.IntKind.i64 0)]) w) w) w) w) w) w) w) w) w
theorem S17.calls (a0 a1 : Value) (R : Value → World → Prop) (w : World) (h : S17 a0 a1 R w) : Calls Try.prog 17 #[a0, a1] w fun e w' => ∃ v, e = .returned v ∧ R v w' :=
  calls_of_tr (n := 20) (c := bodyOf Try.f17) (.two .leaf (.two (.two .leaf (.two .leaf (.two (.two .leaf .leaf) .leaf))) (.two .leaf .leaf))) Try.func17 (by kernel_rfl) Try.ntmps17 (by kernel_rfl) (by kernel_rfl) [a0, a1] (by kernel_rfl) (of_eq_ (by kernel_rfl) h)

/-- (*shelfmark/vault.Vault).Sync -/
def S19 (a0 : Value) (R : Value → World → Prop) (w : World) : Prop :=
  NextP Try.prog (nilChk a0) (fun v4 w =>
  LiftP Try.prog (Instr.fieldAt 66 v4 0) (fun v5 w =>
  LiftP Try.prog (Instr.loadAt 24 v5) (fun v6 w =>
  CallP Try.prog 34 #[v6] (fun v7 w =>
  R v7 w) w) w) w) w
theorem S19.calls (a0 : Value) (R : Value → World → Prop) (w : World) (h : S19 a0 R w) : Calls Try.prog 19 #[a0] w fun e w' => ∃ v, e = .returned v ∧ R v w' :=
  calls_of_tr (n := 8) (c := bodyOf Try.f19) (.two .leaf (.two .leaf .leaf)) Try.func19 (by kernel_rfl) Try.ntmps19 (by kernel_rfl) (by kernel_rfl) [a0] (by kernel_rfl) (of_eq_ (by kernel_rfl) h)

/-- shelfmark/shelfmarkref08.Digits -/
def S20 (a0 : Value) (R : Value → World → Prop) (w : World) : Prop :=
  LoopP (fun J vs w =>   -- [0, 3]
    LiftP Try.prog (binS Go.BinOp.gtr 3 (Go.Operand.tmp 4) (Go.Operand.const (Go.Value.int Go.IntKind.i64 9)) (vs.headD undef) (Go.Value.int Go.IntKind.i64 9)) (fun v5 w =>
    CondP v5 (fun w =>
      LiftP Try.prog (binS Go.BinOp.rem 3 (Go.Operand.tmp 6) (Go.Operand.const (Go.Value.int Go.IntKind.i64 10)) (vs.headD undef) (Go.Value.int Go.IntKind.i64 10)) (fun v7 w =>
    LiftP Try.prog (binS Go.BinOp.rem 3 (Go.Operand.tmp 8) (Go.Operand.const (Go.Value.int Go.IntKind.i64 10)) (vs.headD undef) (Go.Value.int Go.IntKind.i64 10)) (fun v9 w =>
    LiftP Try.prog (binS Go.BinOp.add 3 (Go.Operand.tmp 9) (Go.Operand.const (Go.Value.int Go.IntKind.i64 1)) v9 (Go.Value.int Go.IntKind.i64 1)) (fun v10 w =>
    LiftP Try.prog (Instr.sliceAt 9 (Go.Value.string { data := #[48, 49, 50, 51, 52, 53, 54, 55, 56, 57] }) (some v7) (some v10) none) (fun v11 w =>
    LiftP Try.prog (binS Go.BinOp.add 9 (Go.Operand.tmp 11) (Go.Operand.tmp 12) v11 (vs.tail.headD undef)) (fun v13 w =>
    LiftP Try.prog (binS Go.BinOp.quo 3 (Go.Operand.tmp 14) (Go.Operand.const (Go.Value.int Go.IntKind.i64 10)) (vs.headD undef) (Go.Value.int Go.IntKind.i64 10)) (fun v15 w =>
    J [v15, v13] w) w) w) w) w) w) w) (fun w =>
      LiftP Try.prog (binS Go.BinOp.lss 3 (Go.Operand.tmp 16) (Go.Operand.const (Go.Value.int Go.IntKind.i64 0)) (vs.headD undef) (Go.Value.int Go.IntKind.i64 0)) (fun v17 w =>
  CondP v17 (fun w =>
    R (vs.tail.headD undef) w) (fun w =>
    LiftP Try.prog (binS Go.BinOp.add 3 (Go.Operand.tmp 20) (Go.Operand.const (Go.Value.int Go.IntKind.i64 1)) (vs.headD undef) (Go.Value.int Go.IntKind.i64 1)) (fun v21 w =>
  LiftP Try.prog (Instr.sliceAt 9 (Go.Value.string { data := #[48, 49, 50, 51, 52, 53, 54, 55, 56, 57] }) (some (vs.headD undef)) (some v21) none) (fun v22 w =>
  LiftP Try.prog (binS Go.BinOp.add 9 (Go.Operand.tmp 22) (Go.Operand.tmp 23) v22 (vs.tail.headD undef)) (fun v24 w =>
  R v24 w) w) w) w) w) w) w) w) [a0, (Go.Value.string { data := #[] })] w
theorem S20.calls (a0 : Value) (R : Value → World → Prop) (w : World) (h : S20 a0 R w) : Calls Try.prog 20 #[a0] w fun e w' => ∃ v, e = .returned v ∧ R v w' :=
  calls_of_tr (n := 25) (c := bodyOf Try.f20) (.two .leaf (.two .leaf (.two (.one (.loop [0, 3] (.two (.two .leaf (.two .leaf .leaf)) (.one (.two .leaf .leaf))))) (.two (.two .leaf (.two (.two .leaf .leaf) .leaf)) (.two .leaf .leaf))))) Try.func20 (by kernel_rfl) Try.ntmps20 (by kernel_rfl) (by kernel_rfl) [a0] (by kernel_rfl) (of_eq_ (by kernel_rfl) h)

/-- shelfmark/vault.each -/
def S30 (a0 a1 : Value) (R : Value → World → Prop) (w : World) : Prop :=
  NextP Try.prog (builtin Go.Builtin.len #[28] 3 #[false] #[a0]) (fun v7 w =>
  LoopP (fun J vs w =>   -- [8]
    LiftP Try.prog (binS Go.BinOp.lss 3 (Go.Operand.tmp 8) (Go.Operand.tmp 7) (vs.headD undef) v7) (fun v9 w =>
    CondP v9 (fun w =>
      LiftP Try.prog (Instr.indexAt 28 a0 (vs.headD undef)) (fun v10 w =>
    LiftP Try.prog (Instr.loadAt 22 v10) (fun v11 w =>
    LiftP Try.prog (convert 22 9 v11) (fun v14 w =>
    NextP Try.prog (callV a1 #[v14]) (fun v15 w =>
    LiftP Try.prog (binS Go.BinOp.add 3 (Go.Operand.tmp 8) (Go.Operand.const (Go.Value.int Go.IntKind.i64 1)) (vs.headD undef) (Go.Value.int Go.IntKind.i64 1)) (fun v16 w =>
    J [v16] w) w) w) w) w) w) (fun w =>
      R (.tuple #[]) w) w) w) [(Go.Value.int Go.IntKind.i64 0)] w) w
theorem S30.calls (a0 a1 : Value) (R : Value → World → Prop) (w : World) (h : S30 a0 a1 R w) : Calls Try.prog 30 #[a0, a1] w fun e w' => ∃ v, e = .returned v ∧ R v w' :=
  calls_of_tr (n := 17) (c := bodyOf Try.f30) (.two .leaf (.one (.loop [8] (.two .leaf (.two (.two .leaf .leaf) (.two (.one (.two .leaf .leaf)) .leaf)))))) Try.func30 (by kernel_rfl) Try.ntmps30 (by kernel_rfl) (by kernel_rfl) [a0, a1] (by kernel_rfl) (of_eq_ (by kernel_rfl) h)

/-- (*shelfmark/vault.Vault).done -/
def S31 (a0 a1 : Value) (R : Value → World → Prop) (w : World) : Prop :=
  NextP Try.prog (nilChk a0) (fun v6 w =>
  LiftP Try.prog (Instr.fieldAt 66 v6 2) (fun v7 w =>
  LiftP Try.prog (Instr.loadAt 3 v7) (fun v8 w =>
  LiftP Try.prog (binS Go.BinOp.add 3 (Go.Operand.tmp 8) (Go.Operand.const (Go.Value.int Go.IntKind.i64 1)) v8 (Go.Value.int Go.IntKind.i64 1)) (fun v9 w =>
  NextP Try.prog (nilChk a0) (fun v10 w =>
  LiftP Try.prog (Instr.fieldAt 66 v10 2) (fun v11 w =>
  LiftU Try.prog (Instr.storeAt 3 v11 v9) (fun v_ w =>
  NextP Try.prog (nilChk a0) (fun v13 w =>
  LiftP Try.prog (Instr.fieldAt 66 v13 1) (fun v14 w =>
  LiftP Try.prog (Instr.loadAt 63 v14) (fun v15 w =>
  NextP Try.prog (invoke (.fn (.method "Do") #[]) (#[v15] ++ #[a1])) (fun v17 w =>
  R v17 w) w) w) w) w) w) w) w) w) w) w) w
theorem S31.calls (a0 a1 : Value) (R : Value → World → Prop) (w : World) (h : S31 a0 a1 R w) : Calls Try.prog 31 #[a0, a1] w fun e w' => ∃ v, e = .returned v ∧ R v w' :=
  calls_of_tr (n := 18) (c := bodyOf Try.f31) (.two .leaf (.two .leaf (.two .leaf .leaf))) Try.func31 (by kernel_rfl) Try.ntmps31 (by kernel_rfl) (by kernel_rfl) [a0, a1] (by kernel_rfl) (of_eq_ (by kernel_rfl) h)

/-- (*shelfmark/shelfmarkref08.Tape).Do -/
def S62 (a0 a1 : Value) (R : Value → World → Prop) (w : World) : Prop :=
  NextP Try.prog (nilChk a0) (fun v7 w =>
  LiftP Try.prog (Instr.fieldAt 37 v7 0) (fun v8 w =>
  LiftP Try.prog (Instr.loadAt 9 v8) (fun v9 w =>
  NextP Try.prog (builtin Go.Builtin.len #[9] 3 #[false] #[v9]) (fun v10 w =>
  NextP Try.prog (nilChk a0) (fun v13 w =>
  LiftP Try.prog (Instr.fieldAt 37 v13 0) (fun v14 w =>
  LiftP Try.prog (Instr.loadAt 9 v14) (fun v15 w =>
  LiftP Try.prog (binS Go.BinOp.add 9 (Go.Operand.tmp 15) (Go.Operand.tmp 16) v15 a1) (fun v17 w =>
  LiftP Try.prog (binS Go.BinOp.add 9 (Go.Operand.tmp 17) (Go.Operand.const (Go.Value.string { data := #[124] })) v17 (Go.Value.string { data := #[124] })) (fun v18 w =>
  NextP Try.prog (nilChk a0) (fun v19 w =>
  LiftP Try.prog (Instr.fieldAt 37 v19 0) (fun v20 w =>
  LiftU Try.prog (Instr.storeAt 9 v20 v18) (fun v_ w =>
  NextP Try.prog (nilChk a0) (fun v22 w =>
  LiftP Try.prog (Instr.fieldAt 37 v22 1) (fun v23 w =>
  LiftP Try.prog (Instr.loadAt 3 v23) (fun v24 w =>
  LiftP Try.prog (binS Go.BinOp.add 3 (Go.Operand.tmp 24) (Go.Operand.const (Go.Value.int Go.IntKind.i64 1)) v24 (Go.Value.int Go.IntKind.i64 1)) (fun v25 w =>
  NextP Try.prog (nilChk a0) (fun v26 w =>
  LiftP Try.prog (Instr.fieldAt 37 v26 1) (fun v27 w =>
  LiftU Try.prog (Instr.storeAt 3 v27 v25) (fun v__1 w =>
  CallP Try.prog 20 #[v10] (fun v29 w =>
  R v29 w) w) w) w) w) w) w) w) w) w) w) w) w) w) w) w) w) w) w) w) w
theorem S62.calls (a0 a1 : Value) (R : Value → World → Prop) (w : World) (h : S62 a0 a1 R w) : Calls Try.prog 62 #[a0, a1] w fun e w' => ∃ v, e = .returned v ∧ R v w' :=
  calls_of_tr (n := 30) (c := bodyOf Try.f62) (.two .leaf (.two .leaf (.two .leaf (.two .leaf (.two .leaf .leaf))))) Try.func62 (by kernel_rfl) Try.ntmps62 (by kernel_rfl) (by kernel_rfl) [a0, a1] (by kernel_rfl) (of_eq_ (by kernel_rfl) h)

/-- (*shelfmark/shelfmarkref08.Tape).Load -/
def S63 (a0 a1 : Value) (R : Value → World → Prop) (w : World) : Prop :=
  LiftP Try.prog (binS Go.BinOp.eql 9 (Go.Operand.tmp 5) (Go.Operand.const (Go.Value.string { data := #[] })) a1 (Go.Value.string { data := #[] })) (fun v6 w =>
  GuardP v6 false (fun K w => K a1 w) (fun v8 w =>
  GuardP v6 false (fun K w => LiftP Try.prog (Instr.index 9 v8 (Go.Value.int Go.IntKind.i64 0)) K w) (fun v9 w =>
  GuardP v6 false (fun K w => LiftP Try.prog (binS Go.BinOp.neq 5 (Go.Operand.tmp 9) (Go.Operand.const (Go.Value.int Go.IntKind.u8 61)) v9 (Go.Value.int Go.IntKind.u8 61)) K w) (fun v10 w =>
  PickP v6 (Go.Value.bool true) v10 (fun v11 w =>
  CondP v11 (fun w =>
    R (Go.Value.bool false) w) (fun w =>
    LiftP Try.prog (Instr.sliceAt 9 a1 (some (Go.Value.int Go.IntKind.i64 1)) none none) (fun v14 w =>
  NextP Try.prog (nilChk a0) (fun v15 w =>
  LiftP Try.prog (Instr.fieldAt 37 v15 0) (fun v16 w =>
  LiftU Try.prog (Instr.storeAt 9 v16 v14) (fun v_ w =>
  R (Go.Value.bool true) w) w) w) w) w) w) w) w) w) w) w
theorem S63.calls (a0 a1 : Value) (R : Value → World → Prop) (w : World) (h : S63 a0 a1 R w) : Calls Try.prog 63 #[a0, a1] w fun e w' => ∃ v, e = .returned v ∧ R v w' :=
  calls_of_tr (n := 17) (c := bodyOf Try.f63) (.two .leaf (.two (.two .leaf (.two (.two .leaf .leaf) .leaf)) (.two .leaf (.two .leaf .leaf)))) Try.func63 (by kernel_rfl) Try.ntmps63 (by kernel_rfl) (by kernel_rfl) [a0, a1] (by kernel_rfl) (of_eq_ (by kernel_rfl) h)

end Go.Proofs.Ytadbpelpbaikiaa.E
