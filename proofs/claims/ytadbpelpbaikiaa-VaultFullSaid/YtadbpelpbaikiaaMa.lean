import Derived.Test.YtadbpelpbaikiaaM1
import Derived.Test.YtadbpelpbaikiaaProg
import Derived.KernelRfl
namespace Go.Proofs.Ytadbpelpbaikiaa.E
open Go
set_option maxRecDepth 100000

/-- shelfmark/shelfmarklaw08.VaultFull -/
def S6 (a0 a1 : Value) (R : Value → World → Prop) (w : World) : Prop :=
  CallP Try.prog 7 #[] (fun v14 w =>
  LiftP Try.prog (Op.unary Go.UnOp.not v14) (fun v15 w =>
  CondP v15 (fun w =>
    R (Go.Value.bool false) w) (fun w =>
    NextP Try.prog (builtin Go.Builtin.len #[50] 3 #[false] #[a1]) (fun v17 w =>
  LiftP Try.prog (binS Go.BinOp.gtr 3 (Go.Operand.tmp 17) (Go.Operand.const (Go.Value.int Go.IntKind.i64 30)) v17 (Go.Value.int Go.IntKind.i64 30)) (fun v18 w =>
  GuardP v18 false (fun K w => K a1 w) (fun v20 w =>
  GuardP v18 false (fun K w => CallP Try.prog 23 #[v20, (Go.Value.int Go.IntKind.i64 3000)] K w) (fun v21 w =>
  GuardP v18 false (fun K w => LiftP Try.prog (binS Go.BinOp.gtr 3 (Go.Operand.tmp 21) (Go.Operand.const (Go.Value.int Go.IntKind.i64 3000)) v21 (Go.Value.int Go.IntKind.i64 3000)) K w) (fun v22 w =>
  PickP v18 (Go.Value.bool true) v22 (fun v23 w =>
  GuardP v23 false (fun K w => K a0 w) (fun v25 w =>
  GuardP v23 false (fun K w => LiftP Try.prog (binS Go.BinOp.lss 3 (Go.Operand.tmp 25) (Go.Operand.const (Go.Value.int Go.IntKind.i64 0)) v25 (Go.Value.int Go.IntKind.i64 0)) K w) (fun v26 w =>
  PickP v23 (Go.Value.bool true) v26 (fun v27 w =>
  GuardP v27 false (fun K w => K a0 w) (fun v29 w =>
  GuardP v27 false (fun K w => LiftP Try.prog (binS Go.BinOp.gtr 3 (Go.Operand.tmp 29) (Go.Operand.const (Go.Value.int Go.IntKind.i64 5000)) v29 (Go.Value.int Go.IntKind.i64 5000)) K w) (fun v30 w =>
  PickP v27 (Go.Value.bool true) v30 (fun v31 w =>
  CondP v31 (fun w =>
    R (Go.Value.bool true) w) (fun w =>
    CallP Try.prog 8 #[a0] (fun v34 w =>
  LiftP Try.prog (Instr.extract v34 0) (fun v35 w =>
  LiftP Try.prog (Instr.extract v34 1) (fun v36 w =>
  CallP Try.prog 16 #[v35] (fun v39 w =>
  LiftP Try.prog (Instr.extract v39 0) (fun v40 w =>
  LiftP Try.prog (Instr.extract v39 1) (fun v41 w =>
  LiftP Try.prog (binS Go.BinOp.eql 32 (Go.Operand.tmp 42) (Go.Operand.const (Go.Value.pointer none)) v40 (Go.Value.pointer none)) (fun v43 w =>
  CondP v43 (fun w =>
    R (Go.Value.bool false) w) (fun w =>
    LoopP (fun J vs w =>   -- [9, 10]
    NextP Try.prog (builtin Go.Builtin.len #[50] 3 #[false] #[a1]) (fun v46 w =>
    LiftP Try.prog (binS Go.BinOp.lss 3 (Go.Operand.tmp 44) (Go.Operand.tmp 46) (vs.tail.headD undef) v46) (fun v47 w =>
    CondP v47 (fun w =>
      LiftP Try.prog (Instr.indexAt 50 a1 (vs.tail.headD undef)) (fun v54 w =>
    LiftP Try.prog (Instr.loadAt 9 v54) (fun v55 w =>
    CallP Try.prog 17 #[v40, v55] (fun v56 w =>
    LiftP Try.prog (Instr.extract v56 0) (fun v57 w =>
    LiftP Try.prog (Instr.extract v56 1) (fun v58 w =>
    JoinP (fun J_1 w =>
      LiftP Try.prog (binS Go.BinOp.eql 25 (Go.Operand.tmp 59) (Go.Operand.const (Go.Value.int Go.IntKind.i64 0)) v58 (Go.Value.int Go.IntKind.i64 0)) (fun v60 w =>
      CondP v60 (fun w =>
        LiftP Try.prog (Instr.indexAt 50 a1 (vs.tail.headD undef)) (fun v64 w =>
        LiftP Try.prog (Instr.loadAt 9 v64) (fun v65 w =>
        LiftP Try.prog (Instr.buildSlice 50 1 #[(0, v65)]) (fun v66 w =>
        NextP Try.prog (builtin Go.Builtin.append #[50, 50] 50 #[false, false] #[(vs.headD undef), v66]) (fun v67 w =>
        J_1 [v67] w) w) w) w) w) (fun w =>
        DrawP (fun S w =>
        YieldP Try.prog S (binS Go.BinOp.neq 25 (Go.Operand.tmp 68) (Go.Operand.const (Go.Value.int Go.IntKind.i64 6)) v58 (Go.Value.int Go.IntKind.i64 6)) (fun v69 w =>
        GuardP v69 false (fun K w => K v57 w) (fun v71 w =>
        GuardP v69 false (fun K w => YieldP Try.prog S (binS Go.BinOp.neq 9 (Go.Operand.tmp 71) (Go.Operand.const (Go.Value.string { data := #[] })) v71 (Go.Value.string { data := #[] })) K w) (fun v72 w =>
        PickP v69 (Go.Value.bool true) v72 (fun v73 w =>
        GuardP v73 false (fun K w => K v35 w) (fun v75 w =>
        GuardP v73 false (fun K w => K a0 w) (fun v77 w =>
        GuardP v73 false (fun K w => YieldP Try.prog S (binS Go.BinOp.sub 3 (Go.Operand.tmp 77) (Go.Operand.const (Go.Value.int Go.IntKind.i64 8)) v77 (Go.Value.int Go.IntKind.i64 8)) K w) (fun v78 w =>
        GuardP v73 false (fun K w => K a1 w) (fun v79 w =>
        GuardP v73 false (fun K w => K (vs.tail.headD undef) w) (fun v80 w =>
        GuardP v73 false (fun K w => YieldP Try.prog S (Instr.indexAt 50 v79 v80) K w) (fun v81 w =>
        GuardP v73 false (fun K w => YieldP Try.prog S (Instr.loadAt 9 v81) K w) (fun v82 w =>
        GuardP v73 false (fun K w => YieldN Try.prog S (builtin Go.Builtin.len #[9] 3 #[false] #[v82]) K w) (fun v83 w =>
        GuardP v73 false (fun K w => YieldP Try.prog S (binS Go.BinOp.sub 3 (Go.Operand.tmp 78) (Go.Operand.tmp 83) v78 v83) K w) (fun v84 w =>
        GuardA v73 false S (fun K w => CallP Try.prog 24 #[v75] K w) (fun S v76 w =>
        GuardP v73 false (fun K w => YieldP Try.prog S (binS Go.BinOp.leq 3 (Go.Operand.tmp 76) (Go.Operand.tmp 84) v76 v84) K w) (fun v85 w =>
        PickP v73 (Go.Value.bool true) v85 (fun v86 w =>
        CondP v86 (fun w =>
          R (Go.Value.bool false) w) (fun w =>
          J_1 [(vs.headD undef)] w) w) w) w) w) w) w) w) w) w) w) w) w) w) w) w) w) w) w) w) w) (fun vs_1 w =>   -- [9]
    DrawP (fun S w =>
    YieldN Try.prog S (nilChk v41) (fun v88 w =>
    YieldP Try.prog S (Instr.fieldAt 37 v88 0) (fun v89 w =>
    YieldP Try.prog S (Instr.loadAt 9 v89) (fun v90 w =>
    ActP S (fun K w => CallP Try.prog 21 #[(vs_1.headD undef)] K w) (fun S v92 w =>
    YieldP Try.prog S (binS Go.BinOp.neq 9 (Go.Operand.tmp 90) (Go.Operand.tmp 92) v90 v92) (fun v93 w =>
    GuardP v93 false (fun K w => K v40 w) (fun v95 w =>
    GuardP v93 false (fun K w => K (vs_1.headD undef) w) (fun v97 w =>
    GuardP v93 false (fun K w => YieldN Try.prog S (builtin Go.Builtin.len #[50] 3 #[false] #[v97]) K w) (fun v98 w =>
    GuardA v93 false S (fun K w => CallP Try.prog 14 #[v95] K w) (fun S v96 w =>
    GuardP v93 false (fun K w => YieldP Try.prog S (binS Go.BinOp.neq 3 (Go.Operand.tmp 96) (Go.Operand.tmp 98) v96 v98) K w) (fun v99 w =>
    PickP v93 (Go.Value.bool true) v99 (fun v100 w =>
    CondP v100 (fun w =>
      R (Go.Value.bool false) w) (fun w =>
      LiftP Try.prog (binS Go.BinOp.add 3 (Go.Operand.tmp 48) (Go.Operand.const (Go.Value.int Go.IntKind.i64 1)) (vs.tail.headD undef) (Go.Value.int Go.IntKind.i64 1)) (fun v49 w =>
    J [(vs_1.headD undef), v49] w) w) w) w) w) w) w) w) w) w) w) w) w) w) w) w) w) w) w) w) w) (fun w =>
      CallP Try.prog 18 #[v40] (fun v102 w =>
  LiftP Try.prog (binS Go.BinOp.neq 25 (Go.Operand.tmp 103) (Go.Operand.const (Go.Value.int Go.IntKind.i64 0)) v102 (Go.Value.int Go.IntKind.i64 0)) (fun v104 w =>
  GuardP v104 true (fun K w => K v102 w) (fun v106 w =>
  GuardP v104 true (fun K w => LiftP Try.prog (binS Go.BinOp.neq 25 (Go.Operand.tmp 106) (Go.Operand.const (Go.Value.int Go.IntKind.i64 6)) v106 (Go.Value.int Go.IntKind.i64 6)) K w) (fun v107 w =>
  GuardP v104 true (fun K w => K v107 w) (fun v108 w =>
  GuardP v108 false (fun K w => K v41 w) (fun v109 w =>
  GuardP v108 false (fun K w => NextP Try.prog (nilChk v109) K w) (fun v110 w =>
  GuardP v108 false (fun K w => LiftP Try.prog (Instr.fieldAt 37 v110 0) K w) (fun v111 w =>
  GuardP v108 false (fun K w => LiftP Try.prog (Instr.loadAt 9 v111) K w) (fun v112 w =>
  GuardP v108 false (fun K w => NextP Try.prog (builtin Go.Builtin.len #[9] 3 #[false] #[v112]) K w) (fun v113 w =>
  GuardP v108 false (fun K w => K a0 w) (fun v114 w =>
  GuardP v108 false (fun K w => LiftP Try.prog (binS Go.BinOp.sub 3 (Go.Operand.tmp 114) (Go.Operand.const (Go.Value.int Go.IntKind.i64 9)) v114 (Go.Value.int Go.IntKind.i64 9)) K w) (fun v115 w =>
  GuardP v108 false (fun K w => LiftP Try.prog (binS Go.BinOp.leq 3 (Go.Operand.tmp 113) (Go.Operand.tmp 115) v113 v115) K w) (fun v116 w =>
  GuardP v104 true (fun K w => PickP v108 (Go.Value.bool true) v116 K w) (fun v117 w =>
  PickP v104 v117 (Go.Value.bool false) (fun v118 w =>
  GuardP v118 false (fun K w => K v40 w) (fun v120 w =>
  GuardP v118 false (fun K w => CallP Try.prog 22 #[v120] K w) (fun v121 w =>
  GuardP v118 false (fun K w => LiftP Try.prog (Op.unary Go.UnOp.not v121) K w) (fun v122 w =>
  PickP v118 (Go.Value.bool true) v122 (fun v123 w =>
  CondP v123 (fun w =>
    R (Go.Value.bool false) w) (fun w =>
    CallP Try.prog 12 #[v35, (Go.Value.int Go.IntKind.i64 0), (Go.Value.int Go.IntKind.i64 0)] (fun v125 w =>
  CallP Try.prog 16 #[v35] (fun v128 w =>
  LiftP Try.prog (Instr.extract v128 0) (fun v129 w =>
  LiftP Try.prog (Instr.extract v128 1) (fun v130 w =>
  DrawP (fun S w =>
  YieldP Try.prog S (binS Go.BinOp.neq 32 (Go.Operand.tmp 131) (Go.Operand.const (Go.Value.pointer none)) v129 (Go.Value.pointer none)) (fun v132 w =>
  GuardP v132 true (fun K w => K v130 w) (fun v134 w =>
  GuardP v132 true (fun K w => YieldN Try.prog S (nilChk v134) K w) (fun v135 w =>
  GuardP v132 true (fun K w => YieldP Try.prog S (Instr.fieldAt 37 v135 0) K w) (fun v136 w =>
  GuardP v132 true (fun K w => YieldP Try.prog S (Instr.loadAt 9 v136) K w) (fun v137 w =>
  GuardP v132 true (fun K w => K (vs.headD undef) w) (fun v138 w =>
  GuardA v132 true S (fun K w => CallP Try.prog 21 #[v138] K w) (fun S v139 w =>
  GuardP v132 true (fun K w => YieldP Try.prog S (binS Go.BinOp.eql 9 (Go.Operand.tmp 137) (Go.Operand.tmp 139) v137 v139) K w) (fun v140 w =>
  PickP v132 v140 (Go.Value.bool false) (fun v141 w =>
  R v141 w) w) w) w) w) w) w) w) w) w) w) w) w) w) w) w) w) w) w) w) w) w) w) w) w) w) w) w) w) w) w) w) w) w) w) w) w) w) [(Go.Value.slice none 0 0), (Go.Value.int Go.IntKind.i64 0)] w) w) w) w) w) w) w) w) w) w) w) w) w) w) w) w) w) w) w) w) w) w) w) w) w
theorem S6.calls (a0 a1 : Value) (R : Value → World → Prop) (w : World) (h : S6 a0 a1 R w) : Calls Try.prog 6 #[a0, a1] w fun e w' => ∃ v, e = .returned v ∧ R v w' :=
  calls_of_tr (n := 142) (c := bodyOf Try.f6) (.two .leaf (.two (.two .leaf (.two (.two .leaf .leaf) .leaf)) (.two (.two .leaf (.two (.two .leaf .leaf) .leaf)) (.two .leaf (.two .leaf (.two (.two .leaf (.two (.two .leaf .leaf) .leaf)) (.two .leaf (.two (.two .leaf (.one (.loop [9, 10] (.two (.two .leaf (.two .leaf .leaf)) (.two (.one (.two .leaf (.join [9] (.two .leaf (.two .leaf (.two (.draw [(true, 0), (true, 1), (true, 2), (true, 3), (true, 4), (true, 5), (true, 6), (true, 7), (true, 9), (true, 10), (true, 11), (true, 12), (true, 13), (true, 14), (true, 15), (true, 16), (false, 8), (true, 17), (true, 18)]) (.two (.two .leaf .leaf) .leaf)))) (.two (.draw [(true, 0), (true, 1), (true, 2), (true, 3), (true, 4), (false, 5), (true, 6), (true, 7), (true, 8), (true, 10), (true, 11), (false, 9), (true, 12), (true, 13)]) (.two (.two .leaf .leaf) .leaf))))) .leaf))))) (.two (.two .leaf (.two .leaf (.two (.two .leaf .leaf) .leaf))) (.two .leaf (.two .leaf (.two (.draw [(true, 0), (true, 1), (true, 2), (true, 3), (true, 4), (true, 5), (true, 6), (true, 7), (false, 8), (true, 9), (true, 10), (true, 11)]) .leaf)))))))))))) Try.func6 (by kernel_rfl) Try.ntmps6 (by kernel_rfl) (by kernel_rfl) [a0, a1] (by kernel_rfl) (of_eq_ (by kernel_rfl) h)

/-- shelfmark/shelfmarklaw08.awake -/
def S7 (R : Value → World → Prop) (w : World) : Prop :=
  CallP Try.prog 8 #[(Go.Value.int Go.IntKind.i64 1000)] (fun v9 w =>
  LiftP Try.prog (Instr.extract v9 0) (fun v10 w =>
  LiftP Try.prog (Instr.extract v9 1) (fun v11 w =>
  CallP Try.prog 16 #[v10] (fun v14 w =>
  LiftP Try.prog (Instr.extract v14 0) (fun v15 w =>
  LiftP Try.prog (Instr.extract v14 1) (fun v16 w =>
  LiftP Try.prog (binS Go.BinOp.eql 32 (Go.Operand.tmp 17) (Go.Operand.const (Go.Value.pointer none)) v15 (Go.Value.pointer none)) (fun v18 w =>
  CondP v18 (fun w =>
    R (Go.Value.bool false) w) (fun w =>
    CallP Try.prog 17 #[v15, (Go.Value.string { data := #[97] })] (fun v21 w =>
  LiftP Try.prog (Instr.extract v21 0) (fun v22 w =>
  LiftP Try.prog (Instr.extract v21 1) (fun v23 w =>
  CallP Try.prog 19 #[v15] (fun v25 w =>
  CallP Try.prog 17 #[v15, (Go.Value.string { data := #[98] })] (fun v27 w =>
  CallP Try.prog 12 #[v10, (Go.Value.int Go.IntKind.i64 0), (Go.Value.int Go.IntKind.i64 0)] (fun v29 w =>
  CallP Try.prog 16 #[v10] (fun v32 w =>
  LiftP Try.prog (Instr.extract v32 0) (fun v33 w =>
  LiftP Try.prog (Instr.extract v32 1) (fun v34 w =>
  LiftP Try.prog (binS Go.BinOp.neq 32 (Go.Operand.tmp 35) (Go.Operand.const (Go.Value.pointer none)) v33 (Go.Value.pointer none)) (fun v36 w =>
  GuardP v36 true (fun K w => K v22 w) (fun v38 w =>
  GuardP v36 true (fun K w => LiftP Try.prog (binS Go.BinOp.eql 9 (Go.Operand.tmp 38) (Go.Operand.const (Go.Value.string { data := #[48] })) v38 (Go.Value.string { data := #[48] })) K w) (fun v39 w =>
  PickP v36 v39 (Go.Value.bool false) (fun v40 w =>
  GuardP v40 true (fun K w => K v23 w) (fun v42 w =>
  GuardP v40 true (fun K w => LiftP Try.prog (binS Go.BinOp.eql 25 (Go.Operand.tmp 42) (Go.Operand.const (Go.Value.int Go.IntKind.i64 0)) v42 (Go.Value.int Go.IntKind.i64 0)) K w) (fun v43 w =>
  PickP v40 v43 (Go.Value.bool false) (fun v44 w =>
  GuardP v44 true (fun K w => K v34 w) (fun v46 w =>
  GuardP v44 true (fun K w => NextP Try.prog (nilChk v46) K w) (fun v47 w =>
  GuardP v44 true (fun K w => LiftP Try.prog (Instr.fieldAt 37 v47 0) K w) (fun v48 w =>
  GuardP v44 true (fun K w => LiftP Try.prog (Instr.loadAt 9 v48) K w) (fun v49 w =>
  GuardP v44 true (fun K w => LiftP Try.prog (binS Go.BinOp.eql 9 (Go.Operand.tmp 49) (Go.Operand.const (Go.Value.string { data := #[97, 124] })) v49 (Go.Value.string { data := #[97, 124] })) K w) (fun v50 w =>
  PickP v44 v50 (Go.Value.bool false) (fun v51 w =>
  GuardP v51 true (fun K w => K v33 w) (fun v53 w =>
  GuardP v51 true (fun K w => CallP Try.prog 14 #[v53] K w) (fun v54 w =>
  GuardP v51 true (fun K w => LiftP Try.prog (binS Go.BinOp.eql 3 (Go.Operand.tmp 54) (Go.Operand.const (Go.Value.int Go.IntKind.i64 1)) v54 (Go.Value.int Go.IntKind.i64 1)) K w) (fun v55 w =>
  PickP v51 v55 (Go.Value.bool false) (fun v56 w =>
  R v56 w) w) w) w) w) w) w) w) w) w) w) w) w) w) w) w) w) w) w) w) w) w) w) w) w) w) w) w) w) w) w) w) w) w) w
theorem S7.calls (R : Value → World → Prop) (w : World) (h : S7 R w) : Calls Try.prog 7 #[] w fun e w' => ∃ v, e = .returned v ∧ R v w' :=
  calls_of_tr (n := 57) (c := bodyOf Try.f7) (.two .leaf (.two .leaf (.two .leaf (.two (.two .leaf (.two (.two .leaf .leaf) .leaf)) (.two .leaf (.two .leaf (.two .leaf (.two .leaf (.two .leaf (.two .leaf .leaf)))))))))) Try.func7 (by kernel_rfl) Try.ntmps7 (by kernel_rfl) (by kernel_rfl) [] (by kernel_rfl) (of_eq_ (by kernel_rfl) h)

/-- shelfmark/vault.Open -/
def S11 (a0 a1 : Value) (R : Value → World → Prop) (w : World) : Prop :=
  CallP Try.prog 9 #[a0] (fun v12 w =>
  LiftP Try.prog (Instr.extract v12 0) (fun v13 w =>
  LiftP Try.prog (Instr.extract v12 1) (fun v14 w =>
  LiftP Try.prog (Instr.extract v12 2) (fun v15 w =>
  LiftP Try.prog (binS Go.BinOp.neq 25 (Go.Operand.tmp 17) (Go.Operand.const (Go.Value.int Go.IntKind.i64 0)) v15 (Go.Value.int Go.IntKind.i64 0)) (fun v18 w =>
  CondP v18 (fun w =>
    R (.tuple #[(Go.Value.pointer none), v15]) w) (fun w =>
    NextP Try.prog (builtin Go.Builtin.len #[22] 3 #[false] #[v13]) (fun v22 w =>
    LiftP Try.prog (binS Go.BinOp.gtr 3 (Go.Operand.tmp 22) (Go.Operand.const (Go.Value.int Go.IntKind.i64 0)) v22 (Go.Value.int Go.IntKind.i64 0)) (fun v23 w =>
    GuardP v23 true (fun K w => K a1 w) (fun v25 w =>
    GuardP v23 true (fun K w => K v13 w) (fun v26 w =>
    GuardP v23 true (fun K w => LiftP Try.prog (convert 22 9 v26) K w) (fun v27 w =>
    GuardP v23 true (fun K w => NextP Try.prog (invoke (.fn (.method "Load") #[]) (#[v25] ++ #[v27])) K w) (fun v28 w =>
    GuardP v23 true (fun K w => LiftP Try.prog (Op.unary Go.UnOp.not v28) K w) (fun v29 w =>
    PickP v23 v29 (Go.Value.bool false) (fun v30 w =>
    CondP v30 (fun w =>
      R (.tuple #[(Go.Value.pointer none), (Go.Value.int Go.IntKind.i64 3)]) w) (fun w =>
      LiftP Try.prog (Instr.build 66 #[(0, a0), (1, a1)]) (fun v33 w =>
  LiftP Try.prog (Instr.box 66 v33) (fun v34 w =>
  LiftP Try.prog (Instr.makeFunc (Go.Fn.func 31) #[v34] #[]) (fun v37 w =>
  CallP Try.prog 30 #[v14, v37] (fun v38 w =>
  R (.tuple #[v34, (Go.Value.int Go.IntKind.i64 0)]) w) w) w) w) w) w) w) w) w) w) w) w) w) w) w) w) w) w) w) w
theorem S11.calls (a0 a1 : Value) (R : Value → World → Prop) (w : World) (h : S11 a0 a1 R w) : Calls Try.prog 11 #[a0, a1] w fun e w' => ∃ v, e = .returned v ∧ R v w' :=
  calls_of_tr (n := 40) (c := bodyOf Try.f11) (.two .leaf (.two .leaf (.two (.one (.two .leaf (.two (.two .leaf .leaf) (.two .leaf (.two (.two .leaf .leaf) .leaf))))) (.two .leaf (.two .leaf (.two .leaf .leaf)))))) Try.func11 (by kernel_rfl) Try.ntmps11 (by kernel_rfl) (by kernel_rfl) [a0, a1] (by kernel_rfl) (of_eq_ (by kernel_rfl) h)

/-- (*shelfmark/vault.Vault).Count -/
def S14 (a0 : Value) (R : Value → World → Prop) (w : World) : Prop :=
  NextP Try.prog (nilChk a0) (fun v4 w =>
  LiftP Try.prog (Instr.fieldAt 66 v4 2) (fun v5 w =>
  LiftP Try.prog (Instr.loadAt 3 v5) (fun v6 w =>
  R v6 w) w) w) w
theorem S14.calls (a0 : Value) (R : Value → World → Prop) (w : World) (h : S14 a0 R w) : Calls Try.prog 14 #[a0] w fun e w' => ∃ v, e = .returned v ∧ R v w' :=
  calls_of_tr (n := 7) (c := bodyOf Try.f14) (.two .leaf (.two .leaf .leaf)) Try.func14 (by kernel_rfl) Try.ntmps14 (by kernel_rfl) (by kernel_rfl) [a0] (by kernel_rfl) (of_eq_ (by kernel_rfl) h)

/-- shelfmark/shelfmarklaw08.opened -/
def S16 (a0 : Value) (R : Value → World → Prop) (w : World) : Prop :=
  LiftP Try.prog (Instr.build 37 #[]) (fun v7 w =>
  LiftP Try.prog (Instr.box 37 v7) (fun v8 w =>
  LiftP Try.prog (binS Go.BinOp.eql 24 (Go.Operand.tmp 9) (Go.Operand.const (Go.Value.pointer none)) a0 (Go.Value.pointer none)) (fun v10 w =>
  CondP v10 (fun w =>
    R (.tuple #[(Go.Value.pointer none), v8]) w) (fun w =>
    LiftP Try.prog (Instr.makeInterface 35 v8) (fun v15 w =>
  CallP Try.prog 11 #[a0, v15] (fun v16 w =>
  LiftP Try.prog (Instr.extract v16 0) (fun v17 w =>
  LiftP Try.prog (Instr.extract v16 1) (fun v18 w =>
  LiftP Try.prog (binS Go.BinOp.neq 25 (Go.Operand.tmp 19) (Go.Operand.const (Go.Value.int Go.IntKind.i64 0)) v18 (Go.Value.int Go.IntKind.i64 0)) (fun v20 w =>
  CondP v20 (fun w =>
    R (.tuple #[(Go.Value.pointer none), v8]) w) (fun w =>
    R (.tuple #[v17, v8]) w) w) w) w) w) w) w) w) w) w) w
theorem S16.calls (a0 : Value) (R : Value → World → Prop) (w : World) (h : S16 a0 R w) : Calls Try.prog 16 #[a0] w fun e w' => ∃ v, e = .returned v ∧ R v w' :=
  calls_of_tr (n := 24) (c := bodyOf Try.f16) (.two .leaf (.two .leaf (.two (.two .leaf (.two (.two .leaf .leaf) .leaf)) (.two .leaf (.two (.two .leaf (.two (.two .leaf .leaf) .leaf)) (.two .leaf .leaf)))))) Try.func16 (by kernel_rfl) Try.ntmps16 (by kernel_rfl) (by kernel_rfl) [a0] (by kernel_rfl) (of_eq_ (by kernel_rfl) h)

/-- (*shelfmark/vault.Vault).Do -/
def S17 (a0 a1 : Value) (R : Value → World → Prop) (w : World) : Prop :=
  NextP Try.prog (nilChk a0) (fun v8 w =>
  LiftP Try.prog (Instr.fieldAt 66 v8 0) (fun v9 w =>
  LiftP Try.prog (Instr.loadAt 24 v9) (fun v10 w =>
  LiftP Try.prog (convert 9 22 a1) (fun v12 w =>
  CallP Try.prog 32 #[v10, v12] (fun v13 w =>
  LiftP Try.prog (binS Go.BinOp.neq 25 (Go.Operand.tmp 14) (Go.Operand.const (Go.Value.int Go.IntKind.i64 0)) v13 (Go.Value.int Go.IntKind.i64 0)) (fun v15 w =>
  CondP v15 (fun w =>
    R (.tuple #[(Go.Value.string { data := #[] }), v13]) w) (fun w =>
    CallP Try.prog 31 #[a0, a1] (fun v19 w =>
  R (.tuple #[v19, (Go.Value.int Go.IntKind.i64 0)]) w) w) w) w) w) w) w) w) w
theorem S17.calls (a0 a1 : Value) (R : Value → World → Prop) (w : World) (h : S17 a0 a1 R w) : Calls Try.prog 17 #[a0, a1] w fun e w' => ∃ v, e = .returned v ∧ R v w' :=
  calls_of_tr (n := 20) (c := bodyOf Try.f17) (.two .leaf (.two (.two .leaf (.two .leaf (.two (.two .leaf .leaf) .leaf))) (.two .leaf .leaf))) Try.func17 (by kernel_rfl) Try.ntmps17 (by kernel_rfl) (by kernel_rfl) [a0, a1] (by kernel_rfl) (of_eq_ (by kernel_rfl) h)

/-- (*shelfmark/vault.Vault).Settle -/
def S18 (a0 : Value) (R : Value → World → Prop) (w : World) : Prop :=
  CallP Try.prog 19 #[a0] (fun v5 w =>
  LiftP Try.prog (binS Go.BinOp.neq 25 (Go.Operand.tmp 6) (Go.Operand.const (Go.Value.int Go.IntKind.i64 0)) v5 (Go.Value.int Go.IntKind.i64 0)) (fun v7 w =>
  CondP v7 (fun w =>
    R v5 w) (fun w =>
    DrawP (fun S w =>
  YieldN Try.prog S (nilChk a0) (fun v10 w =>
  YieldP Try.prog S (Instr.fieldAt 66 v10 0) (fun v11 w =>
  YieldP Try.prog S (Instr.loadAt 24 v11) (fun v12 w =>
  YieldN Try.prog S (nilChk a0) (fun v14 w =>
  YieldP Try.prog S (Instr.fieldAt 66 v14 1) (fun v15 w =>
  YieldP Try.prog S (Instr.loadAt 63 v15) (fun v16 w =>
  ActP S (fun K w => NextP Try.prog (invoke (.fn (.method "Save") #[]) (#[v16] ++ #[])) K w) (fun S v17 w =>
  ActP S (fun K w => LiftP Try.prog (convert 9 22 v17) K w) (fun S v18 w =>
  ActP S (fun K w => CallP Try.prog 10 #[v12, v18] K w) (fun S v19 w =>
  ActP S (fun K w => LiftP Try.prog (Instr.buildSlice 75 2 #[(0, v19), (1, (Go.Value.int Go.IntKind.i64 0))]) K w) (fun S v20 w =>
  ActP S (fun K w => CallP Try.prog 33 #[v20] K w) (fun S v21 w =>
  R v21 w) w) w) w) w) w) w) w) w) w) w) w) w) w) w) w
theorem S18.calls (a0 : Value) (R : Value → World → Prop) (w : World) (h : S18 a0 R w) : Calls Try.prog 18 #[a0] w fun e w' => ∃ v, e = .returned v ∧ R v w' :=
  calls_of_tr (n := 22) (c := bodyOf Try.f18) (.two .leaf (.two (.two .leaf (.two .leaf (.two (.two .leaf .leaf) .leaf))) (.two (.draw [(true, 0), (true, 1), (true, 2), (true, 3), (true, 4), (true, 5), (true, 6), (true, 7), (false, 8), (false, 9), (false, 10), (false, 11), (false, 12), (true, 13)]) .leaf))) Try.func18 (by kernel_rfl) Try.ntmps18 (by kernel_rfl) (by kernel_rfl) [a0] (by kernel_rfl) (of_eq_ (by kernel_rfl) h)

/-- (*shelfmark/vault.Vault).Sync -/
def S19 (a0 : Value) (R : Value → World → Prop) (w : World) : Prop :=
  NextP Try.prog (nilChk a0) (fun v4 w =>
  LiftP Try.prog (Instr.fieldAt 66 v4 0) (fun v5 w =>
  LiftP Try.prog (Instr.loadAt 24 v5) (fun v6 w =>
  CallP Try.prog 34 #[v6] (fun v7 w =>
  R v7 w) w) w) w) w
theorem S19.calls (a0 : Value) (R : Value → World → Prop) (w : World) (h : S19 a0 R w) : Calls Try.prog 19 #[a0] w fun e w' => ∃ v, e = .returned v ∧ R v w' :=
  calls_of_tr (n := 8) (c := bodyOf Try.f19) (.two .leaf (.two .leaf .leaf)) Try.func19 (by kernel_rfl) Try.ntmps19 (by kernel_rfl) (by kernel_rfl) [a0] (by kernel_rfl) (of_eq_ (by kernel_rfl) h)

/-- shelfmark/shelfmarkref08.Digits -/
def S20 (a0 : Value) (R : Value → World → Prop) (w : World) : Prop :=
  LoopP (fun J vs w =>   -- [0, 3]
    LiftP Try.prog (binS Go.BinOp.gtr 3 (Go.Operand.tmp 4) (Go.Operand.const (Go.Value.int Go.IntKind.i64 9)) (vs.headD undef) (Go.Value.int Go.IntKind.i64 9)) (fun v5 w =>
    CondP v5 (fun w =>
      LiftP Try.prog (binS Go.BinOp.rem 3 (Go.Operand.tmp 6) (Go.Operand.const (Go.Value.int Go.IntKind.i64 10)) (vs.headD undef) (Go.Value.int Go.IntKind.i64 10)) (fun v7 w =>
    LiftP Try.prog (binS Go.BinOp.rem 3 (Go.Operand.tmp 8) (Go.Operand.const (Go.Value.int Go.IntKind.i64 10)) (vs.headD undef) (Go.Value.int Go.IntKind.i64 10)) (fun v9 w =>
    LiftP Try.prog (binS Go.BinOp.add 3 (Go.Operand.tmp 9) (Go.Operand.const (Go.Value.int Go.IntKind.i64 1)) v9 (Go.Value.int Go.IntKind.i64 1)) (fun v10 w =>
    LiftP Try.prog (Instr.sliceAt 9 (Go.Value.string { data := #[48, 49, 50, 51, 52, 53, 54, 55, 56, 57] }) (some v7) (some v10) none) (fun v11 w =>
    LiftP Try.prog (binS Go.BinOp.add 9 (Go.Operand.tmp 11) (Go.Operand.tmp 12) v11 (vs.tail.headD undef)) (fun v13 w =>
    LiftP Try.prog (binS Go.BinOp.quo 3 (Go.Operand.tmp 14) (Go.Operand.const (Go.Value.int Go.IntKind.i64 10)) (vs.headD undef) (Go.Value.int Go.IntKind.i64 10)) (fun v15 w =>
    J [v15, v13] w) w) w) w) w) w) w) (fun w =>
      LiftP Try.prog (binS Go.BinOp.lss 3 (Go.Operand.tmp 16) (Go.Operand.const (Go.Value.int Go.IntKind.i64 0)) (vs.headD undef) (Go.Value.int Go.IntKind.i64 0)) (fun v17 w =>
  CondP v17 (fun w =>
    R (vs.tail.headD undef) w) (fun w =>
    LiftP Try.prog (binS Go.BinOp.add 3 (Go.Operand.tmp 20) (Go.Operand.const (Go.Value.int Go.IntKind.i64 1)) (vs.headD undef) (Go.Value.int Go.IntKind.i64 1)) (fun v21 w =>
  LiftP Try.prog (Instr.sliceAt 9 (Go.Value.string { data := #[48, 49, 50, 51, 52, 53, 54, 55, 56, 57] }) (some (vs.headD undef)) (some v21) none) (fun v22 w =>
  LiftP Try.prog (binS Go.BinOp.add 9 (Go.Operand.tmp 22) (Go.Operand.tmp 23) v22 (vs.tail.headD undef)) (fun v24 w =>
  R v24 w) w) w) w) w) w) w) w) [a0, (Go.Value.string { data := #[] })] w
theorem S20.calls (a0 : Value) (R : Value → World → Prop) (w : World) (h : S20 a0 R w) : Calls Try.prog 20 #[a0] w fun e w' => ∃ v, e = .returned v ∧ R v w' :=
  calls_of_tr (n := 25) (c := bodyOf Try.f20) (.two .leaf (.two .leaf (.two (.one (.loop [0, 3] (.two (.two .leaf (.two .leaf .leaf)) (.one (.two .leaf .leaf))))) (.two (.two .leaf (.two (.two .leaf .leaf) .leaf)) (.two .leaf .leaf))))) Try.func20 (by kernel_rfl) Try.ntmps20 (by kernel_rfl) (by kernel_rfl) [a0] (by kernel_rfl) (of_eq_ (by kernel_rfl) h)

/-- shelfmark/shelfmarkref08.All -/
def S21 (a0 : Value) (R : Value → World → Prop) (w : World) : Prop :=
  LoopP (fun J vs w =>   -- [3, 4]
    NextP Try.prog (builtin Go.Builtin.len #[50] 3 #[false] #[a0]) (fun v7 w =>
    LiftP Try.prog (binS Go.BinOp.lss 3 (Go.Operand.tmp 5) (Go.Operand.tmp 7) (vs.tail.headD undef) v7) (fun v8 w =>
    CondP v8 (fun w =>
      LiftP Try.prog (Instr.indexAt 50 a0 (vs.tail.headD undef)) (fun v14 w =>
    LiftP Try.prog (Instr.loadAt 9 v14) (fun v15 w =>
    LiftP Try.prog (binS Go.BinOp.add 9 (Go.Operand.tmp 11) (Go.Operand.tmp 15) (vs.headD undef) v15) (fun v16 w =>
    LiftP Try.prog (binS Go.BinOp.add 9 (Go.Operand.tmp 16) (Go.Operand.const (Go.Value.string { data := #[124] })) v16 (Go.Value.string { data := #[124] })) (fun v17 w =>
    LiftP Try.prog (binS Go.BinOp.add 3 (Go.Operand.tmp 9) (Go.Operand.const (Go.Value.int Go.IntKind.i64 1)) (vs.tail.headD undef) (Go.Value.int Go.IntKind.i64 1)) (fun v10 w =>
    J [v17, v10] w) w) w) w) w) w) (fun w =>
      R (vs.headD undef) w) w) w) w) [(Go.Value.string { data := #[] }), (Go.Value.int Go.IntKind.i64 0)] w
theorem S21.calls (a0 : Value) (R : Value → World → Prop) (w : World) (h : S21 a0 R w) : Calls Try.prog 21 #[a0] w fun e w' => ∃ v, e = .returned v ∧ R v w' :=
  calls_of_tr (n := 19) (c := bodyOf Try.f21) (.two .leaf (.two .leaf (.two (.two .leaf (.one (.loop [3, 4] (.two (.two .leaf (.two .leaf .leaf)) (.two (.one .leaf) .leaf))))) (.two .leaf .leaf)))) Try.func21 (by kernel_rfl) Try.ntmps21 (by kernel_rfl) (by kernel_rfl) [a0] (by kernel_rfl) (of_eq_ (by kernel_rfl) h)

/-- (*shelfmark/vault.Vault).Sure -/
def S22 (a0 : Value) (R : Value → World → Prop) (w : World) : Prop :=
  NextP Try.prog (nilChk a0) (fun v4 w =>
  LiftP Try.prog (Instr.fieldAt 66 v4 0) (fun v5 w =>
  LiftP Try.prog (Instr.loadAt 24 v5) (fun v6 w =>
  CallP Try.prog 35 #[v6] (fun v7 w =>
  LiftP Try.prog (binS Go.BinOp.eql 3 (Go.Operand.tmp 7) (Go.Operand.const (Go.Value.int Go.IntKind.i64 0)) v7 (Go.Value.int Go.IntKind.i64 0)) (fun v8 w =>
  R v8 w) w) w) w) w) w
theorem S22.calls (a0 : Value) (R : Value → World → Prop) (w : World) (h : S22 a0 R w) : Calls Try.prog 22 #[a0] w fun e w' => ∃ v, e = .returned v ∧ R v w' :=
  calls_of_tr (n := 9) (c := bodyOf Try.f22) (.two .leaf (.two .leaf .leaf)) Try.func22 (by kernel_rfl) Try.ntmps22 (by kernel_rfl) (by kernel_rfl) [a0] (by kernel_rfl) (of_eq_ (by kernel_rfl) h)

/-- shelfmark/shelfmarkref01.Bulk -/
def S23 (a0 a1 : Value) (R : Value → World → Prop) (w : World) : Prop :=
  LoopP (fun J vs w =>   -- [5, 6]
    NextP Try.prog (builtin Go.Builtin.len #[50] 3 #[false] #[a0]) (fun v9 w =>
    LiftP Try.prog (binS Go.BinOp.lss 3 (Go.Operand.tmp 7) (Go.Operand.tmp 9) (vs.tail.headD undef) v9) (fun v10 w =>
    GuardP v10 true (fun K w => K (vs.headD undef) w) (fun v12 w =>
    GuardP v10 true (fun K w => K a1 w) (fun v13 w =>
    GuardP v10 true (fun K w => LiftP Try.prog (binS Go.BinOp.leq 3 (Go.Operand.tmp 12) (Go.Operand.tmp 13) v12 v13) K w) (fun v14 w =>
    PickP v10 v14 (Go.Value.bool false) (fun v15 w =>
    CondP v15 (fun w =>
      LiftP Try.prog (binS Go.BinOp.add 3 (Go.Operand.tmp 18) (Go.Operand.const (Go.Value.int Go.IntKind.i64 1)) (vs.headD undef) (Go.Value.int Go.IntKind.i64 1)) (fun v19 w =>
    LiftP Try.prog (Instr.indexAt 50 a0 (vs.tail.headD undef)) (fun v22 w =>
    LiftP Try.prog (Instr.loadAt 9 v22) (fun v23 w =>
    NextP Try.prog (builtin Go.Builtin.len #[9] 3 #[false] #[v23]) (fun v24 w =>
    NextP Try.prog (builtin Go.Builtin.min #[3, 3] 3 #[false, false] #[v24, a1]) (fun v26 w =>
    LiftP Try.prog (binS Go.BinOp.add 3 (Go.Operand.tmp 19) (Go.Operand.tmp 26) v19 v26) (fun v27 w =>
    LiftP Try.prog (binS Go.BinOp.add 3 (Go.Operand.tmp 16) (Go.Operand.const (Go.Value.int Go.IntKind.i64 1)) (vs.tail.headD undef) (Go.Value.int Go.IntKind.i64 1)) (fun v17 w =>
    J [v27, v17] w) w) w) w) w) w) w) w) (fun w =>
      R (vs.headD undef) w) w) w) w) w) w) w) w) [(Go.Value.int Go.IntKind.i64 0), (Go.Value.int Go.IntKind.i64 0)] w
theorem S23.calls (a0 a1 : Value) (R : Value → World → Prop) (w : World) (h : S23 a0 a1 R w) : Calls Try.prog 23 #[a0, a1] w fun e w' => ∃ v, e = .returned v ∧ R v w' :=
  calls_of_tr (n := 29) (c := bodyOf Try.f23) (.two .leaf (.two .leaf (.two (.two .leaf (.one (.loop [5, 6] (.two (.two .leaf (.two .leaf .leaf)) (.two (.one .leaf) .leaf))))) (.two .leaf .leaf)))) Try.func23 (by kernel_rfl) Try.ntmps23 (by kernel_rfl) (by kernel_rfl) [a0, a1] (by kernel_rfl) (of_eq_ (by kernel_rfl) h)

/-- shelfmark/vault.each -/
def S30 (a0 a1 : Value) (R : Value → World → Prop) (w : World) : Prop :=
  NextP Try.prog (builtin Go.Builtin.len #[28] 3 #[false] #[a0]) (fun v7 w =>
  LoopP (fun J vs w =>   -- [8]
    LiftP Try.prog (binS Go.BinOp.lss 3 (Go.Operand.tmp 8) (Go.Operand.tmp 7) (vs.headD undef) v7) (fun v9 w =>
    CondP v9 (fun w =>
      LiftP Try.prog (Instr.indexAt 28 a0 (vs.headD undef)) (fun v10 w =>
    LiftP Try.prog (Instr.loadAt 22 v10) (fun v11 w =>
    LiftP Try.prog (convert 22 9 v11) (fun v14 w =>
    NextP Try.prog (callV a1 #[v14]) (fun v15 w =>
    LiftP Try.prog (binS Go.BinOp.add 3 (Go.Operand.tmp 8) (Go.Operand.const (Go.Value.int Go.IntKind.i64 1)) (vs.headD undef) (Go.Value.int Go.IntKind.i64 1)) (fun v16 w =>
    J [v16] w) w) w) w) w) w) (fun w =>
      R (.tuple #[]) w) w) w) [(Go.Value.int Go.IntKind.i64 0)] w) w
theorem S30.calls (a0 a1 : Value) (R : Value → World → Prop) (w : World) (h : S30 a0 a1 R w) : Calls Try.prog 30 #[a0, a1] w fun e w' => ∃ v, e = .returned v ∧ R v w' :=
  calls_of_tr (n := 17) (c := bodyOf Try.f30) (.two .leaf (.one (.loop [8] (.two .leaf (.two (.two .leaf .leaf) (.two (.one (.two .leaf .leaf)) .leaf)))))) Try.func30 (by kernel_rfl) Try.ntmps30 (by kernel_rfl) (by kernel_rfl) [a0, a1] (by kernel_rfl) (of_eq_ (by kernel_rfl) h)

/-- (*shelfmark/vault.Vault).done -/
def S31 (a0 a1 : Value) (R : Value → World → Prop) (w : World) : Prop :=
  NextP Try.prog (nilChk a0) (fun v6 w =>
  LiftP Try.prog (Instr.fieldAt 66 v6 2) (fun v7 w =>
  LiftP Try.prog (Instr.loadAt 3 v7) (fun v8 w =>
  LiftP Try.prog (binS Go.BinOp.add 3 (Go.Operand.tmp 8) (Go.Operand.const (Go.Value.int Go.IntKind.i64 1)) v8 (Go.Value.int Go.IntKind.i64 1)) (fun v9 w =>
  NextP Try.prog (nilChk a0) (fun v10 w =>
  LiftP Try.prog (Instr.fieldAt 66 v10 2) (fun v11 w =>
  LiftU Try.prog (Instr.storeAt 3 v11 v9) (fun v_ w =>
  NextP Try.prog (nilChk a0) (fun v13 w =>
  LiftP Try.prog (Instr.fieldAt 66 v13 1) (fun v14 w =>
  LiftP Try.prog (Instr.loadAt 63 v14) (fun v15 w =>
  NextP Try.prog (invoke (.fn (.method "Do") #[]) (#[v15] ++ #[a1])) (fun v17 w =>
  R v17 w) w) w) w) w) w) w) w) w) w) w) w
theorem S31.calls (a0 a1 : Value) (R : Value → World → Prop) (w : World) (h : S31 a0 a1 R w) : Calls Try.prog 31 #[a0, a1] w fun e w' => ∃ v, e = .returned v ∧ R v w' :=
  calls_of_tr (n := 18) (c := bodyOf Try.f31) (.two .leaf (.two .leaf (.two .leaf .leaf))) Try.func31 (by kernel_rfl) Try.ntmps31 (by kernel_rfl) (by kernel_rfl) [a0, a1] (by kernel_rfl) (of_eq_ (by kernel_rfl) h)

/-- cmp.Or[shelfmark/api.Errno] -/
def S33 (a0 : Value) (R : Value → World → Prop) (w : World) : Prop :=
  NextP Try.prog (builtin Go.Builtin.len #[75] 3 #[false] #[a0]) (fun v7 w =>
  LoopP (fun J vs w =>   -- [8]
    LiftP Try.prog (binS Go.BinOp.lss 3 (Go.Operand.tmp 8) (Go.Operand.tmp 7) (vs.headD undef) v7) (fun v9 w =>
    CondP v9 (fun w =>
      LiftP Try.prog (Instr.indexAt 75 a0 (vs.headD undef)) (fun v10 w =>
    LiftP Try.prog (Instr.loadAt 25 v10) (fun v11 w =>
    LiftP Try.prog (binS Go.BinOp.neq 25 (Go.Operand.tmp 12) (Go.Operand.tmp 13) v11 (Go.Value.int Go.IntKind.i64 0)) (fun v14 w =>
    CondP v14 (fun w =>
      R v11 w) (fun w =>
      LiftP Try.prog (binS Go.BinOp.add 3 (Go.Operand.tmp 8) (Go.Operand.const (Go.Value.int Go.IntKind.i64 1)) (vs.headD undef) (Go.Value.int Go.IntKind.i64 1)) (fun v16 w =>
    J [v16] w) w) w) w) w) w) (fun w =>
      R (Go.Value.int Go.IntKind.i64 0) w) w) w) [(Go.Value.int Go.IntKind.i64 0)] w) w
theorem S33.calls (a0 : Value) (R : Value → World → Prop) (w : World) (h : S33 a0 R w) : Calls Try.prog 33 #[a0] w fun e w' => ∃ v, e = .returned v ∧ R v w' :=
  calls_of_tr (n := 18) (c := bodyOf Try.f33) (.two .leaf (.two .leaf (.two (.two .leaf (.one (.loop [8] (.two .leaf (.two (.two .leaf .leaf) (.two (.one (.two .leaf (.two .leaf (.two (.two .leaf .leaf) .leaf)))) .leaf)))))) (.two .leaf .leaf)))) Try.func33 (by kernel_rfl) Try.ntmps33 (by kernel_rfl) (by kernel_rfl) [a0] (by kernel_rfl) (of_eq_ (by kernel_rfl) h)

/-- (*shelfmark/shelfmarkref08.Tape).Do -/
def S62 (a0 a1 : Value) (R : Value → World → Prop) (w : World) : Prop :=
  NextP Try.prog (nilChk a0) (fun v7 w =>
  LiftP Try.prog (Instr.fieldAt 37 v7 0) (fun v8 w =>
  LiftP Try.prog (Instr.loadAt 9 v8) (fun v9 w =>
  NextP Try.prog (builtin Go.Builtin.len #[9] 3 #[false] #[v9]) (fun v10 w =>
  NextP Try.prog (nilChk a0) (fun v13 w =>
  LiftP Try.prog (Instr.fieldAt 37 v13 0) (fun v14 w =>
  LiftP Try.prog (Instr.loadAt 9 v14) (fun v15 w =>
  LiftP Try.prog (binS Go.BinOp.add 9 (Go.Operand.tmp 15) (Go.Operand.tmp 16) v15 a1) (fun v17 w =>
  LiftP Try.prog (binS Go.BinOp.add 9 (Go.Operand.tmp 17) (Go.Operand.const (Go.Value.string { data := #[124] })) v17 (Go.Value.string { data := #[124] })) (fun v18 w =>
  NextP Try.prog (nilChk a0) (fun v19 w =>
  LiftP Try.prog (Instr.fieldAt 37 v19 0) (fun v20 w =>
  LiftU Try.prog (Instr.storeAt 9 v20 v18) (fun v_ w =>
  NextP Try.prog (nilChk a0) (fun v22 w =>
  LiftP Try.prog (Instr.fieldAt 37 v22 1) (fun v23 w =>
  LiftP Try.prog (Instr.loadAt 3 v23) (fun v24 w =>
  LiftP Try.prog (binS Go.BinOp.add 3 (Go.Operand.tmp 24) (Go.Operand.const (Go.Value.int Go.IntKind.i64 1)) v24 (Go.Value.int Go.IntKind.i64 1)) (fun v25 w =>
  NextP Try.prog (nilChk a0) (fun v26 w =>
  LiftP Try.prog (Instr.fieldAt 37 v26 1) (fun v27 w =>
  LiftU Try.prog (Instr.storeAt 3 v27 v25) (fun v__1 w =>
  CallP Try.prog 20 #[v10] (fun v29 w =>
  R v29 w) w) w) w) w) w) w) w) w) w) w) w) w) w) w) w) w) w) w) w) w
theorem S62.calls (a0 a1 : Value) (R : Value → World → Prop) (w : World) (h : S62 a0 a1 R w) : Calls Try.prog 62 #[a0, a1] w fun e w' => ∃ v, e = .returned v ∧ R v w' :=
  calls_of_tr (n := 30) (c := bodyOf Try.f62) (.two .leaf (.two .leaf (.two .leaf (.two .leaf (.two .leaf .leaf))))) Try.func62 (by kernel_rfl) Try.ntmps62 (by kernel_rfl) (by kernel_rfl) [a0, a1] (by kernel_rfl) (of_eq_ (by kernel_rfl) h)

/-- (*shelfmark/shelfmarkref08.Tape).Load -/
def S63 (a0 a1 : Value) (R : Value → World → Prop) (w : World) : Prop :=
  LiftP Try.prog (binS Go.BinOp.eql 9 (Go.Operand.tmp 5) (Go.Operand.const (Go.Value.string { data := #[] })) a1 (Go.Value.string { data := #[] })) (fun v6 w =>
  GuardP v6 false (fun K w => K a1 w) (fun v8 w =>
  GuardP v6 false (fun K w => LiftP Try.prog (Instr.index 9 v8 (Go.Value.int Go.IntKind.i64 0)) K w) (fun v9 w =>
  GuardP v6 false (fun K w => LiftP Try.prog (binS Go.BinOp.neq 5 (Go.Operand.tmp 9) (Go.Operand.const (Go.Value.int Go.IntKind.u8 61)) v9 (Go.Value.int Go.IntKind.u8 61)) K w) (fun v10 w =>
  PickP v6 (Go.Value.bool true) v10 (fun v11 w =>
  CondP v11 (fun w =>
    R (Go.Value.bool false) w) (fun w =>
    LiftP Try.prog (Instr.sliceAt 9 a1 (some (Go.Value.int Go.IntKind.i64 1)) none none) (fun v14 w =>
  NextP Try.prog (nilChk a0) (fun v15 w =>
  LiftP Try.prog (Instr.fieldAt 37 v15 0) (fun v16 w =>
  LiftU Try.prog (Instr.storeAt 9 v16 v14) (fun v_ w =>
  R (Go.Value.bool true) w) w) w) w) w) w) w) w) w) w) w
theorem S63.calls (a0 a1 : Value) (R : Value → World → Prop) (w : World) (h : S63 a0 a1 R w) : Calls Try.prog 63 #[a0, a1] w fun e w' => ∃ v, e = .returned v ∧ R v w' :=
  calls_of_tr (n := 17) (c := bodyOf Try.f63) (.two .leaf (.two (.two .leaf (.two (.two .leaf .leaf) .leaf)) (.two .leaf (.two .leaf .leaf)))) Try.func63 (by kernel_rfl) Try.ntmps63 (by kernel_rfl) (by kernel_rfl) [a0, a1] (by kernel_rfl) (of_eq_ (by kernel_rfl) h)

/-- (*shelfmark/shelfmarkref08.Tape).Save -/
def S64 (a0 : Value) (R : Value → World → Prop) (w : World) : Prop :=
  NextP Try.prog (nilChk a0) (fun v4 w =>
  LiftP Try.prog (Instr.fieldAt 37 v4 0) (fun v5 w =>
  LiftP Try.prog (Instr.loadAt 9 v5) (fun v6 w =>
  LiftP Try.prog (binS Go.BinOp.add 9 (Go.Operand.const (Go.Value.string { data := #[61] })) (Go.Operand.tmp 6) (Go.Value.string { data := #[61] }) v6) (fun v7 w =>
  R v7 w) w) w) w) w
theorem S64.calls (a0 : Value) (R : Value → World → Prop) (w : World) (h : S64 a0 R w) : Calls Try.prog 64 #[a0] w fun e w' => ∃ v, e = .returned v ∧ R v w' :=
  calls_of_tr (n := 8) (c := bodyOf Try.f64) (.two .leaf (.two .leaf .leaf)) Try.func64 (by kernel_rfl) Try.ntmps64 (by kernel_rfl) (by kernel_rfl) [a0] (by kernel_rfl) (of_eq_ (by kernel_rfl) h)

end Go.Proofs.Ytadbpelpbaikiaa.E
