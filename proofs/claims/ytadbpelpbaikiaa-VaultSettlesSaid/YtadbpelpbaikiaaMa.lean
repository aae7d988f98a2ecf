import Derived.Test.YtadbpelpbaikiaaM1
import Derived.Test.YtadbpelpbaikiaaProg
import Derived.KernelRfl
namespace Go.Proofs.Ytadbpelpbaikiaa.E
open Go
set_option maxRecDepth 100000

/-- shelfmark/shelfmarklaw08.VaultSettles -/
def S4 (a0 : Value) (R : Value → World → Prop) (w : World) : Prop :=
  CallP Try.prog 7 #[] (fun v16 w =>
  LiftP Try.prog (Op.unary Go.UnOp.not v16) (fun v17 w =>
  CondP v17 (fun w =>
    R (Go.Value.bool false) w) (fun w =>
    CallP Try.prog 15 #[a0] (fun v19 w =>
  LiftP Try.prog (Op.unary Go.UnOp.not v19) (fun v20 w =>
  CondP v20 (fun w =>
    R (Go.Value.bool true) w) (fun w =>
    CallP Try.prog 8 #[(Go.Value.int Go.IntKind.i64 4194304)] (fun v22 w =>
  LiftP Try.prog (Instr.extract v22 0) (fun v23 w =>
  LiftP Try.prog (Instr.extract v22 1) (fun v24 w =>
  CallP Try.prog 8 #[(Go.Value.int Go.IntKind.i64 4194304)] (fun v26 w =>
  LiftP Try.prog (Instr.extract v26 0) (fun v27 w =>
  LiftP Try.prog (Instr.extract v26 1) (fun v28 w =>
  CallP Try.prog 16 #[v23] (fun v31 w =>
  LiftP Try.prog (Instr.extract v31 0) (fun v32 w =>
  LiftP Try.prog (Instr.extract v31 1) (fun v33 w =>
  CallP Try.prog 16 #[v27] (fun v36 w =>
  LiftP Try.prog (Instr.extract v36 0) (fun v37 w =>
  LiftP Try.prog (Instr.extract v36 1) (fun v38 w =>
  LoopP (fun J vs w =>   -- [7, 8, 9, 10, 11]
    NextP Try.prog (builtin Go.Builtin.len #[41] 3 #[false] #[a0]) (fun v41 w =>
    LiftP Try.prog (binS Go.BinOp.lss 3 (Go.Operand.tmp 39) (Go.Operand.tmp 41) (vs.tail.tail.tail.tail.headD undef) v41) (fun v42 w =>
    CondP v42 (fun w =>
      LiftP Try.prog (binS Go.BinOp.eql 32 (Go.Operand.tmp 45) (Go.Operand.const (Go.Value.pointer none)) (vs.headD undef) (Go.Value.pointer none)) (fun v46 w =>
    GuardP v46 false (fun K w => K (vs.tail.tail.headD undef) w) (fun v48 w =>
    GuardP v46 false (fun K w => LiftP Try.prog (binS Go.BinOp.eql 32 (Go.Operand.tmp 48) (Go.Operand.const (Go.Value.pointer none)) v48 (Go.Value.pointer none)) K w) (fun v49 w =>
    PickP v46 (Go.Value.bool true) v49 (fun v50 w =>
    CondP v50 (fun w =>
      R (Go.Value.bool false) w) (fun w =>
      JoinP (fun J_1 w =>
      LiftP Try.prog (Instr.indexAt 41 a0 (vs.tail.tail.tail.tail.headD undef)) (fun v53 w =>
      LiftP Try.prog (Instr.fieldAt 46 v53 0) (fun v54 w =>
      LiftP Try.prog (Instr.loadAt 3 v54) (fun v55 w =>
      LiftP Try.prog (binS Go.BinOp.eql 3 (Go.Operand.tmp 55) (Go.Operand.const (Go.Value.int Go.IntKind.i64 1)) v55 (Go.Value.int Go.IntKind.i64 1)) (fun v57 w =>
      CondP v57 (fun w =>
        LiftP Try.prog (Instr.indexAt 41 a0 (vs.tail.tail.tail.tail.headD undef)) (fun v62 w =>
        LiftP Try.prog (Instr.fieldAt 46 v62 1) (fun v63 w =>
        LiftP Try.prog (Instr.loadAt 9 v63) (fun v64 w =>
        CallP Try.prog 17 #[(vs.headD undef), v64] (fun v65 w =>
        LiftP Try.prog (Instr.extract v65 0) (fun v66 w =>
        LiftP Try.prog (Instr.extract v65 1) (fun v67 w =>
        LiftP Try.prog (Instr.indexAt 41 a0 (vs.tail.tail.tail.tail.headD undef)) (fun v72 w =>
        LiftP Try.prog (Instr.fieldAt 46 v72 1) (fun v73 w =>
        LiftP Try.prog (Instr.loadAt 9 v73) (fun v74 w =>
        CallP Try.prog 17 #[(vs.tail.tail.headD undef), v74] (fun v75 w =>
        LiftP Try.prog (Instr.extract v75 0) (fun v76 w =>
        LiftP Try.prog (Instr.extract v75 1) (fun v77 w =>
        LiftP Try.prog (binS Go.BinOp.neq 9 (Go.Operand.tmp 78) (Go.Operand.tmp 79) v66 v76) (fun v80 w =>
        GuardP v80 false (fun K w => K v67 w) (fun v82 w =>
        GuardP v80 false (fun K w => K v77 w) (fun v83 w =>
        GuardP v80 false (fun K w => LiftP Try.prog (binS Go.BinOp.neq 25 (Go.Operand.tmp 82) (Go.Operand.tmp 83) v82 v83) K w) (fun v84 w =>
        PickP v80 (Go.Value.bool true) v84 (fun v85 w =>
        CondP v85 (fun w =>
          R (Go.Value.bool false) w) (fun w =>
          J_1 [(vs.headD undef), (vs.tail.headD undef), (vs.tail.tail.headD undef), (vs.tail.tail.tail.headD undef)] w) w) w) w) w) w) w) w) w) w) w) w) w) w) w) w) w) w) w) (fun w =>
        JoinP (fun J_2 w =>
          LiftP Try.prog (binS Go.BinOp.eql 3 (Go.Operand.tmp 55) (Go.Operand.const (Go.Value.int Go.IntKind.i64 2)) v55 (Go.Value.int Go.IntKind.i64 2)) (fun v87 w =>
          CondP v87 (fun w =>
            J_2 [v87] w) (fun w =>
            LiftP Try.prog (binS Go.BinOp.eql 3 (Go.Operand.tmp 55) (Go.Operand.const (Go.Value.int Go.IntKind.i64 3)) v55 (Go.Value.int Go.IntKind.i64 3)) (fun v88 w =>
            J_2 [v88] w) w) w) w) (fun vs_2 w =>   -- [86]
        CondP (vs_2.headD undef) (fun w =>
          CallP Try.prog 18 #[(vs.headD undef)] (fun v90 w =>
          CallP Try.prog 19 #[(vs.tail.tail.headD undef)] (fun v92 w =>
          LiftP Try.prog (binS Go.BinOp.neq 25 (Go.Operand.tmp 90) (Go.Operand.tmp 92) v90 v92) (fun v93 w =>
          CondP v93 (fun w =>
            R (Go.Value.bool false) w) (fun w =>
            J_1 [(vs.headD undef), (vs.tail.headD undef), (vs.tail.tail.headD undef), (vs.tail.tail.tail.headD undef)] w) w) w) w) w) (fun w =>
          LiftP Try.prog (binS Go.BinOp.eql 3 (Go.Operand.tmp 55) (Go.Operand.const (Go.Value.int Go.IntKind.i64 4)) v55 (Go.Value.int Go.IntKind.i64 4)) (fun v95 w =>
          CondP v95 (fun w =>
            DrawP (fun S w =>
            YieldP Try.prog S (Instr.indexAt 41 a0 (vs.tail.tail.tail.tail.headD undef)) (fun v99 w =>
            YieldP Try.prog S (Instr.fieldAt 46 v99 2) (fun v100 w =>
            YieldP Try.prog S (Instr.loadAt 3 v100) (fun v101 w =>
            YieldP Try.prog S (Instr.indexAt 41 a0 (vs.tail.tail.tail.tail.headD undef)) (fun v104 w =>
            YieldP Try.prog S (Instr.fieldAt 46 v104 3) (fun v105 w =>
            YieldP Try.prog S (Instr.loadAt 3 v105) (fun v106 w =>
            CallP Try.prog 12 #[v23, v101, v106] (fun v107 w =>
            DrawP (fun S w =>
            YieldP Try.prog S (Instr.indexAt 41 a0 (vs.tail.tail.tail.tail.headD undef)) (fun v111 w =>
            YieldP Try.prog S (Instr.fieldAt 46 v111 2) (fun v112 w =>
            YieldP Try.prog S (Instr.loadAt 3 v112) (fun v113 w =>
            YieldP Try.prog S (Instr.indexAt 41 a0 (vs.tail.tail.tail.tail.headD undef)) (fun v116 w =>
            YieldP Try.prog S (Instr.fieldAt 46 v116 3) (fun v117 w =>
            YieldP Try.prog S (Instr.loadAt 3 v117) (fun v118 w =>
            CallP Try.prog 12 #[v27, v113, v118] (fun v119 w =>
            CallP Try.prog 16 #[v23] (fun v122 w =>
            LiftP Try.prog (Instr.extract v122 0) (fun v123 w =>
            LiftP Try.prog (Instr.extract v122 1) (fun v124 w =>
            CallP Try.prog 16 #[v27] (fun v127 w =>
            LiftP Try.prog (Instr.extract v127 0) (fun v128 w =>
            LiftP Try.prog (Instr.extract v127 1) (fun v129 w =>
            J_1 [v123, v124, v128, v129] w) w) w) w) w) w) w) w) w) w) w) w) w) w) w) w) w) w) w) w) w) w) w) (fun w =>
            J_1 [(vs.headD undef), (vs.tail.headD undef), (vs.tail.tail.headD undef), (vs.tail.tail.tail.headD undef)] w) w) w) w) w) w) w) w) w) w) (fun vs_1 w =>   -- [7, 8, 9, 10]
    DrawP (fun S w =>
    YieldN Try.prog S (nilChk (vs_1.tail.headD undef)) (fun v131 w =>
    YieldP Try.prog S (Instr.fieldAt 37 v131 0) (fun v132 w =>
    YieldP Try.prog S (Instr.loadAt 9 v132) (fun v133 w =>
    YieldN Try.prog S (nilChk (vs_1.tail.tail.tail.headD undef)) (fun v135 w =>
    YieldP Try.prog S (Instr.fieldAt 37 v135 0) (fun v136 w =>
    YieldP Try.prog S (Instr.loadAt 9 v136) (fun v137 w =>
    YieldP Try.prog S (binS Go.BinOp.neq 9 (Go.Operand.tmp 133) (Go.Operand.tmp 137) v133 v137) (fun v138 w =>
    CondP v138 (fun w =>
      R (Go.Value.bool false) w) (fun w =>
      LiftP Try.prog (binS Go.BinOp.add 3 (Go.Operand.tmp 43) (Go.Operand.const (Go.Value.int Go.IntKind.i64 1)) (vs.tail.tail.tail.tail.headD undef) (Go.Value.int Go.IntKind.i64 1)) (fun v44 w =>
    J [(vs_1.headD undef), (vs_1.tail.headD undef), (vs_1.tail.tail.headD undef), (vs_1.tail.tail.tail.headD undef), v44] w) w) w) w) w) w) w) w) w) w) w) w) w) w) w) w) w) (fun w =>
      LiftP Try.prog (binS Go.BinOp.neq 32 (Go.Operand.tmp 139) (Go.Operand.const (Go.Value.pointer none)) (vs.headD undef) (Go.Value.pointer none)) (fun v140 w =>
  GuardP v140 true (fun K w => K (vs.tail.tail.headD undef) w) (fun v142 w =>
  GuardP v140 true (fun K w => LiftP Try.prog (binS Go.BinOp.neq 32 (Go.Operand.tmp 142) (Go.Operand.const (Go.Value.pointer none)) v142 (Go.Value.pointer none)) K w) (fun v143 w =>
  PickP v140 v143 (Go.Value.bool false) (fun v144 w =>
  GuardP v144 true (fun K w => K (vs.headD undef) w) (fun v146 w =>
  GuardP v144 true (fun K w => CallP Try.prog 14 #[v146] K w) (fun v147 w =>
  GuardP v144 true (fun K w => K (vs.tail.tail.headD undef) w) (fun v148 w =>
  GuardP v144 true (fun K w => CallP Try.prog 14 #[v148] K w) (fun v149 w =>
  GuardP v144 true (fun K w => LiftP Try.prog (binS Go.BinOp.leq 3 (Go.Operand.tmp 147) (Go.Operand.tmp 149) v147 v149) K w) (fun v150 w =>
  PickP v144 v150 (Go.Value.bool false) (fun v151 w =>
  R v151 w) w) w) w) w) w) w) w) w) w) w) w) w) w) [v32, v33, v37, v38, (Go.Value.int Go.IntKind.i64 0)] w) w) w) w) w) w) w) w) w) w) w) w) w) w) w) w) w) w) w
theorem S4.calls (a0 : Value) (R : Value → World → Prop) (w : World) (h : S4 a0 R w) : Calls Try.prog 4 #[a0] w fun e w' => ∃ v, e = .returned v ∧ R v w' :=
  calls_of_tr (n := 152) (c := bodyOf Try.f4) (.two .leaf (.two (.two .leaf (.two (.two .leaf .leaf) .leaf)) (.two (.two .leaf (.two (.two .leaf .leaf) .leaf)) (.two .leaf (.two .leaf (.two .leaf (.two .leaf (.two (.two .leaf (.one (.loop [7, 8, 9, 10, 11] (.two (.two .leaf (.two .leaf .leaf)) (.two (.one (.two (.two .leaf (.two (.two .leaf .leaf) .leaf)) (.join [7, 8, 9, 10] (.two .leaf (.one (.two .leaf (.two (.two .leaf (.two .leaf (.two .leaf (.two (.two .leaf .leaf) .leaf)))) (.join [86] (.two .leaf (.two .leaf .leaf)) (.two (.two .leaf (.two (.two .leaf .leaf) .leaf)) (.two .leaf (.two (.two (.drawL [(true, 0), (true, 1), (true, 2), (true, 3), (true, 4), (true, 5), (true, 6), (true, 7), (true, 8), (true, 9), (true, 10)] 11) (.two (.drawL [(true, 0), (true, 1), (true, 2), (true, 3), (true, 4), (true, 5), (true, 6), (true, 7), (true, 8), (true, 9), (true, 10)] 11) (.two .leaf .leaf))) .leaf)))))))) (.two (.draw [(true, 0), (true, 1), (true, 2), (true, 3), (true, 4), (true, 5), (true, 6), (true, 7), (true, 8)]) (.two (.two .leaf .leaf) .leaf))))) .leaf))))) (.two .leaf .leaf))))))))) Try.func4 (by kernel_rfl) Try.ntmps4 (by kernel_rfl) (by kernel_rfl) [a0] (by kernel_rfl) (of_eq_ (by kernel_rfl) h)

/-- shelfmark/shelfmarklaw08.awake -/
def S7 (R : Value → World → Prop) (w : World) : Prop :=
  CallP Try.prog 8 #[(Go.Value.int Go.IntKind.i64 1000)] (fun v9 w =>
  LiftP Try.prog (Instr.extract v9 0) (fun v10 w =>
  LiftP Try.prog (Instr.extract v9 1) (fun v11 w =>
  CallP Try.prog 16 #[v10] (fun v14 w =>
  LiftP Try.prog (Instr.extract v14 0) (fun v15 w =>
  LiftP Try.prog (Instr.extract v14 1) (fun v16 w =>
  LiftP Try.prog (binS Go.BinOp.eql 32 (Go.Operand.tmp 17) (Go.Operand.const (Go.Value.pointer none)) v15 (Go.Value.pointer none)) (fun v18 w =>
  CondP v18 (fun w =>
    R (Go.Value.bool false) w) (fun w =>
    CallP Try.prog 17 #[v15, (Go.Value.string { data := #[97] })] (fun v21 w =>
  LiftP Try.prog (Instr.extract v21 0) (fun v22 w =>
  LiftP Try.prog (Instr.extract v21 1) (fun v23 w =>
  CallP Try.prog 19 #[v15] (fun v25 w =>
  CallP Try.prog 17 #[v15, (Go.Value.string { data := #[98] })] (fun v27 w =>
  CallP Try.prog 12 #[v10, (Go.Value.int Go.IntKind.i64 0), (Go.Value.int Go.IntKind.i64 0)] (fun v29 w =>
  CallP Try.prog 16 #[v10] (fun v32 w =>
  LiftP Try.prog (Instr.extract v32 0) (fun v33 w =>
  LiftP Try.prog (Instr.extract v32 1) (fun v34 w =>
  LiftP Try.prog (binS Go.BinOp.neq 32 (Go.Operand.tmp 35) (Go.Operand.const (Go.Value.pointer none)) v33 (Go.Value.pointer none)) (fun v36 w =>
  GuardP v36 true (fun K w => K v22 w) (fun v38 w =>
  GuardP v36 true (fun K w => LiftP Try.prog (binS Go.BinOp.eql 9 (Go.Operand.tmp 38) (Go.Operand.const (Go.Value.string { data := #[48] })) v38 (Go.Value.string { data := #[48] })) K w) (fun v39 w =>
  PickP v36 v39 (Go.Value.bool false) (fun v40 w =>
  GuardP v40 true (fun K w => K v23 w) (fun v42 w =>
  GuardP v40 true (fun K w => LiftP Try.prog (binS Go.BinOp.eql 25 (Go.Operand.tmp 42) (Go.Operand.const (Go.Value.int Go.IntKind.i64 0)) v42 (Go.Value.int Go.IntKind.i64 0)) K w) (fun v43 w =>
  PickP v40 v43 (Go.Value.bool false) (fun v44 w =>
  GuardP v44 true (fun K w => K v34 w) (fun v46 w =>
  GuardP v44 true (fun K w => NextP Try.prog (nilChk v46) K w) (fun v47 w =>
  GuardP v44 true (fun K w => LiftP Try.prog (Instr.fieldAt 37 v47 0) K w) (fun v48 w =>
  GuardP v44 true (fun K w => LiftP Try.prog (Instr.loadAt 9 v48) K w) (fun v49 w =>
  GuardP v44 true (fun K w => LiftP Try.prog (binS Go.BinOp.eql 9 (Go.Operand.tmp 49) (Go.Operand.const (Go.Value.string { data := #[97, 124] })) v49 (Go.Value.string { data := #[97, 124] })) K w) (fun v50 w =>
  PickP v44 v50 (Go.Value.bool false) (fun v51 w =>
  GuardP v51 true (fun K w => K v33 w) (fun v53 w =>
  GuardP v51 true (fun K w => CallP Try.prog 14 #[v53] K w) (fun v54 w =>
  GuardP v51 true (fun K w => LiftP Try.prog (binS Go.BinOp.eql 3 (Go.Operand.tmp 54) (Go.Operand.const (Go.Value.int Go.IntKind.i64 1)) v54 (Go.Value.int Go.IntKind.i64 1)) K w) (fun v55 w =>
  PickP v51 v55 (Go.Value.bool false) (fun v56 w =>
  R v56 w) w) w) w) w) w) w) w) w) w) w) w) w) w) w) w) w) w) w) w) w) w) w) w) w) w) w) w) w) w) w) w) w) w) w
theorem S7.calls (R : Value → World → Prop) (w : World) (h : S7 R w) : Calls Try.prog 7 #[] w fun e w' => ∃ v, e = .returned v ∧ R v w' :=
  calls_of_tr (n := 57) (c := bodyOf Try.f7) (.two .leaf (.two .leaf (.two .leaf (.two (.two .leaf (.two (.two .leaf .leaf) .leaf)) (.two .leaf (.two .leaf (.two .leaf (.two .leaf (.two .leaf (.two .leaf .leaf)))))))))) Try.func7 (by kernel_rfl) Try.ntmps7 (by kernel_rfl) (by kernel_rfl) [] (by kernel_rfl) (of_eq_ (by kernel_rfl) h)

/-- shelfmark/vault.Open -/
def S11 (a0 a1 : Value) (R : Value → World → Prop) (w : World) : Prop :=
  CallP Try.prog 9 #[a0] (fun v12 w =>
  LiftP Try.prog (Instr.extract v12 0) (fun v13 w =>
  LiftP Try.prog (Instr.extract v12 1) (fun v14 w =>
  LiftP Try.prog (Instr.extract v12 2) (fun v15 w =>
  LiftP Try.prog (binS Go.BinOp.neq 25 (Go.Operand.tmp 17) (Go.Operand.const (Go.Value.int Go.IntKind.i64 0)) v15 (Go.Value.int Go.IntKind.i64 0)) (fun v18 w =>
  CondP v18 (fun w =>
    R (.tuple #[(Go.Value.pointer none), v15]) w) (fun w =>
    NextP Try.prog (builtin Go.Builtin.len #[22] 3 #[false] #[v13]) (fun v22 w =>
    LiftP Try.prog (binS Go.BinOp.gtr 3 (Go.Operand.tmp 22) (Go.Operand.const (Go.Value.int Go.IntKind.i64 0)) v22 (Go.Value.int Go.IntKind.i64 0)) (fun v23 w =>
    GuardP v23 true (fun K w => K a1 w) (fun v25 w =>
    GuardP v23 true (fun K w => K v13 w) (fun v26 w =>
    GuardP v23 true (fun K w => LiftP Try.prog (convert 22 9 v26) K w) (fun v27 w =>
    GuardP v23 true (fun K w => NextP Try.prog (invoke (.fn (.method "Load") #[]) (#[v25] ++ #[v27])) K w) (fun v28 w =>
    GuardP v23 true (fun K w => LiftP Try.prog (Op.unary Go.UnOp.not v28) K w) (fun v29 w =>
    PickP v23 v29 (Go.Value.bool false) (fun v30 w =>
    CondP v30 (fun w =>
      R (.tuple #[(Go.Value.pointer none), (Go.Value.int Go.IntKind.i64 3)]) w) (fun w =>
      LiftP Try.prog (Instr.build 66 #[(0, a0), (1, a1)]) (fun v33 w =>
  LiftP Try.prog (Instr.box 66 v33) (fun v34 w =>
  LiftP Try.prog (Instr.makeFunc (Go.Fn.func 31) #[v34] #[]) (fun v37 w =>
  CallP Try.prog 30 #[v14, v37] (fun v38 w =>
  R (.tuple #[v34, (Go.Value.int Go.IntKind.i64 0)]) w) w) w) w) w) w) w) w) w) w) w) w) w) w) w) w) w) w) w) w
theorem S11.calls (a0 a1 : Value) (R : Value → World → Prop) (w : World) (h : S11 a0 a1 R w) : Calls Try.prog 11 #[a0, a1] w fun e w' => ∃ v, e = .returned v ∧ R v w' :=
  calls_of_tr (n := 40) (c := bodyOf Try.f11) (.two .leaf (.two .leaf (.two (.one (.two .leaf (.two (.two .leaf .leaf) (.two .leaf (.two (.two .leaf .leaf) .leaf))))) (.two .leaf (.two .leaf (.two .leaf .leaf)))))) Try.func11 (by kernel_rfl) Try.ntmps11 (by kernel_rfl) (by kernel_rfl) [a0, a1] (by kernel_rfl) (of_eq_ (by kernel_rfl) h)

/-- (*shelfmark/vault.Vault).Count -/
def S14 (a0 : Value) (R : Value → World → Prop) (w : World) : Prop :=
  NextP Try.prog (nilChk a0) (fun v4 w =>
  LiftP Try.prog (Instr.fieldAt 66 v4 2) (fun v5 w =>
  LiftP Try.prog (Instr.loadAt 3 v5) (fun v6 w =>
  R v6 w) w) w) w
theorem S14.calls (a0 : Value) (R : Value → World → Prop) (w : World) (h : S14 a0 R w) : Calls Try.prog 14 #[a0] w fun e w' => ∃ v, e = .returned v ∧ R v w' :=
  calls_of_tr (n := 7) (c := bodyOf Try.f14) (.two .leaf (.two .leaf .leaf)) Try.func14 (by kernel_rfl) Try.ntmps14 (by kernel_rfl) (by kernel_rfl) [a0] (by kernel_rfl) (of_eq_ (by kernel_rfl) h)

/-- shelfmark/shelfmarklaw08.light -/
def S15 (a0 : Value) (R : Value → World → Prop) (w : World) : Prop :=
  NextP Try.prog (builtin Go.Builtin.len #[41] 3 #[false] #[a0]) (fun v6 w =>
  LiftP Try.prog (binS Go.BinOp.gtr 3 (Go.Operand.tmp 6) (Go.Operand.const (Go.Value.int Go.IntKind.i64 60)) v6 (Go.Value.int Go.IntKind.i64 60)) (fun v7 w =>
  CondP v7 (fun w =>
    R (Go.Value.bool false) w) (fun w =>
    LoopP (fun J vs w =>   -- [3, 4]
    NextP Try.prog (builtin Go.Builtin.len #[41] 3 #[false] #[a0]) (fun v10 w =>
    LiftP Try.prog (binS Go.BinOp.lss 3 (Go.Operand.tmp 8) (Go.Operand.tmp 10) (vs.tail.headD undef) v10) (fun v11 w =>
    GuardP v11 true (fun K w => K (vs.headD undef) w) (fun v13 w =>
    GuardP v11 true (fun K w => LiftP Try.prog (binS Go.BinOp.leq 3 (Go.Operand.tmp 13) (Go.Operand.const (Go.Value.int Go.IntKind.i64 4000)) v13 (Go.Value.int Go.IntKind.i64 4000)) K w) (fun v14 w =>
    PickP v11 v14 (Go.Value.bool false) (fun v15 w =>
    CondP v15 (fun w =>
      LiftP Try.prog (Instr.indexAt 41 a0 (vs.tail.headD undef)) (fun v21 w =>
    LiftP Try.prog (Instr.fieldAt 46 v21 1) (fun v22 w =>
    LiftP Try.prog (Instr.loadAt 9 v22) (fun v23 w =>
    NextP Try.prog (builtin Go.Builtin.len #[9] 3 #[false] #[v23]) (fun v24 w =>
    NextP Try.prog (builtin Go.Builtin.min #[3, 3] 3 #[false, true] #[v24, (Go.Value.int Go.IntKind.i64 4001)]) (fun v25 w =>
    LiftP Try.prog (binS Go.BinOp.add 3 (Go.Operand.tmp 18) (Go.Operand.tmp 25) (vs.headD undef) v25) (fun v26 w =>
    LiftP Try.prog (binS Go.BinOp.add 3 (Go.Operand.tmp 16) (Go.Operand.const (Go.Value.int Go.IntKind.i64 1)) (vs.tail.headD undef) (Go.Value.int Go.IntKind.i64 1)) (fun v17 w =>
    J [v26, v17] w) w) w) w) w) w) w) w) (fun w =>
      LiftP Try.prog (binS Go.BinOp.leq 3 (Go.Operand.tmp 27) (Go.Operand.const (Go.Value.int Go.IntKind.i64 4000)) (vs.headD undef) (Go.Value.int Go.IntKind.i64 4000)) (fun v28 w =>
  R v28 w) w) w) w) w) w) w) w) [(Go.Value.int Go.IntKind.i64 0), (Go.Value.int Go.IntKind.i64 0)] w) w) w) w
theorem S15.calls (a0 : Value) (R : Value → World → Prop) (w : World) (h : S15 a0 R w) : Calls Try.prog 15 #[a0] w fun e w' => ∃ v, e = .returned v ∧ R v w' :=
  calls_of_tr (n := 29) (c := bodyOf Try.f15) (.two .leaf (.two (.two .leaf (.two (.two .leaf .leaf) .leaf)) (.two .leaf (.two (.two .leaf (.one (.loop [3, 4] (.two (.two .leaf (.two .leaf .leaf)) (.two (.one .leaf) .leaf))))) (.two .leaf .leaf))))) Try.func15 (by kernel_rfl) Try.ntmps15 (by kernel_rfl) (by kernel_rfl) [a0] (by kernel_rfl) (of_eq_ (by kernel_rfl) h)

/-- shelfmark/shelfmarklaw08.opened -/
def S16 (a0 : Value) (R : Value → World → Prop) (w : World) : Prop :=
  LiftP Try.prog (Instr.build 37 #[]) (fun v7 w =>
  LiftP Try.prog (Instr.box 37 v7) (fun v8 w =>
  LiftP Try.prog (binS Go.BinOp.eql 24 (Go.Operand.tmp 9) (Go.Operand.const (Go.Value.pointer none)) a0 (Go.Value.pointer none)) (fun v10 w =>
  CondP v10 (fun w =>
    R (.tuple #[(Go.Value.pointer none), v8]) w) (fun w =>
    LiftP Try.prog (Instr.makeInterface 35 v8) (fun v15 w =>
  CallP Try.prog 11 #[a0, v15] (fun v16 w =>
  LiftP Try.prog (Instr.extract v16 0) (fun v17 w =>
  LiftP Try.prog (Instr.extract v16 1) (fun v18 w =>
  LiftP Try.prog (binS Go.BinOp.neq 25 (Go.Operand.tmp 19) (Go.Operand.const (Go.Value.int Go.IntKind.i64 0)) v18 (Go.Value.int Go.IntKind.i64 0)) (fun v20 w =>
  CondP v20 (fun w =>
    R (.tuple #[(Go.Value.pointer none), v8]) w) (fun w =>
    R (.tuple #[v17, v8]) w) w) w) w) w) w) w) w) w) w) w
theorem S16.calls (a0 : Value) (R : Value → World → Prop) (w : World) (h : S16 a0 R w) : Calls Try.prog 16 #[a0] w fun e w' => ∃ v, e = .returned v ∧ R v w' :=
  calls_of_tr (n := 24) (c := bodyOf Try.f16) (.two .leaf (.two .leaf (.two (.two .leaf (.two (.two .leaf .leaf) .leaf)) (.two .leaf (.two (.two .leaf (.two (.two .leaf .leaf) .leaf)) (.two .leaf .leaf)))))) Try.func16 (by kernel_rfl) Try.ntmps16 (by kernel_rfl) (by kernel_rfl) [a0] (by kernel_rfl) (of_eq_ (by kernel_rfl) h)

/-- (*shelfmark/vault.Vault).Do -/
def S17 (a0 a1 : Value) (R : Value → World → Prop) (w : World) : Prop :=
  NextP Try.prog (nilChk a0) (fun v8 w =>
  LiftP Try.prog (Instr.fieldAt 66 v8 0) (fun v9 w =>
  LiftP Try.prog (Instr.loadAt 24 v9) (fun v10 w =>
  LiftP Try.prog (convert 9 22 a1) (fun v12 w =>
  CallP Try.prog 32 #[v10, v12] (fun v13 w =>
  LiftP Try.prog (binS Go.BinOp.neq 25 (Go.Operand.tmp 14) (Go.Operand.const (Go.Value.int Go.IntKind.i64 0)) v13 (Go.Value.int Go.IntKind.i64 0)) (fun v15 w =>
  CondP v15 (fun w =>
    R (.tuple #[(Go.Value.string { data := #[] }), v13]) w) (fun w =>
    CallP Try.prog 31 #[a0, a1] (fun v19 w =>
  R (.tuple #[v19, (Go.Value.int Go.IntKind.i64 0)]) w) w) w) w) w) w) w) w) w
theorem S17.calls (a0 a1 : Value) (R : Value → World → Prop) (w : World) (h : S17 a0 a1 R w) : Calls Try.prog 17 #[a0, a1] w fun e w' => ∃ v, e = .returned v ∧ R v w' :=
  calls_of_tr (n := 20) (c := bodyOf Try.f17) (.two .leaf (.two (.two .leaf (.two .leaf (.two (.two .leaf .leaf) .leaf))) (.two .leaf .leaf))) Try.func17 (by kernel_rfl) Try.ntmps17 (by kernel_rfl) (by kernel_rfl) [a0, a1] (by kernel_rfl) (of_eq_ (by kernel_rfl) h)

/-- (*shelfmark/vault.Vault).Settle -/
def S18 (a0 : Value) (R : Value → World → Prop) (w : World) : Prop :=
  CallP Try.prog 19 #[a0] (fun v5 w =>
  LiftP Try.prog (binS Go.BinOp.neq 25 (Go.Operand.tmp 6) (Go.Operand.const (Go.Value.int Go.IntKind.i64 0)) v5 (Go.Value.int Go.IntKind.i64 0)) (fun v7 w =>
  CondP v7 (fun w =>
    R v5 w) (fun w =>
    DrawP (fun S w =>
  YieldN Try.prog S (nilChk a0) (fun v10 w =>
  YieldP Try.prog S (Instr.fieldAt 66 v10 0) (fun v11 w =>
  YieldP Try.prog S (Instr.loadAt 24 v11) (fun v12 w =>
  YieldN Try.prog S (nilChk a0) (fun v14 w =>
  YieldP Try.prog S (Instr.fieldAt 66 v14 1) (fun v15 w =>
  YieldP Try.prog S (Instr.loadAt 63 v15) (fun v16 w =>
  ActP S (fun K w => NextP Try.prog (invoke (.fn (.method "Save") #[]) (#[v16] ++ #[])) K w) (fun S v17 w =>
  ActP S (fun K w => LiftP Try.prog (convert 9 22 v17) K w) (fun S v18 w =>
  ActP S (fun K w => CallP Try.prog 10 #[v12, v18] K w) (fun S v19 w =>
  ActP S (fun K w => LiftP Try.prog (Instr.buildSlice 75 2 #[(0, v19), (1, (Go.Value.int Go.IntKind.i64 0))]) K w) (fun S v20 w =>
  ActP S (fun K w => CallP Try.prog 33 #[v20] K w) (fun S v21 w =>
  R v21 w) w) w) w) w) w) w) w) w) w) w) w) w) w) w) w
theorem S18.calls (a0 : Value) (R : Value → World → Prop) (w : World) (h : S18 a0 R w) : Calls Try.prog 18 #[a0] w fun e w' => ∃ v, e = .returned v ∧ R v w' :=
  calls_of_tr (n := 22) (c := bodyOf Try.f18) (.two .leaf (.two (.two .leaf (.two .leaf (.two (.two .leaf .leaf) .leaf))) (.two (.draw [(true, 0), (true, 1), (true, 2), (true, 3), (true, 4), (true, 5), (true, 6), (true, 7), (false, 8), (false, 9), (false, 10), (false, 11), (false, 12), (true, 13)]) .leaf))) Try.func18 (by kernel_rfl) Try.ntmps18 (by kernel_rfl) (by kernel_rfl) [a0] (by kernel_rfl) (of_eq_ (by kernel_rfl) h)

/-- (*shelfmark/vault.Vault).Sync -/
def S19 (a0 : Value) (R : Value → World → Prop) (w : World) : Prop :=
  NextP Try.prog (nilChk a0) (fun v4 w =>
  LiftP Try.prog (Instr.fieldAt 66 v4 0) (fun v5 w =>
  LiftP Try.prog (Instr.loadAt 24 v5) (fun v6 w =>
  CallP Try.prog 34 #[v6] (fun v7 w =>
  R v7 w) w) w) w) w
theorem S19.calls (a0 : Value) (R : Value → World → Prop) (w : World) (h : S19 a0 R w) : Calls Try.prog 19 #[a0] w fun e w' => ∃ v, e = .returned v ∧ R v w' :=
  calls_of_tr (n := 8) (c := bodyOf Try.f19) (.two .leaf (.two .leaf .leaf)) Try.func19 (by kernel_rfl) Try.ntmps19 (by kernel_rfl) (by kernel_rfl) [a0] (by kernel_rfl) (of_eq_ (by kernel_rfl) h)

/-- shelfmark/shelfmarkref08.Digits -/
def S20 (a0 : Value) (R : Value → World → Prop) (w : World) : Prop :=
  LoopP (fun J vs w =>   -- [0, 3]
    LiftP Try.prog (binS Go.BinOp.gtr 3 (Go.Operand.tmp 4) (Go.Operand.const (Go.Value.int Go.IntKind.i64 9)) (vs.headD undef) (Go.Value.int Go.IntKind.i64 9)) (fun v5 w =>
    CondP v5 (fun w =>
      LiftP Try.prog (binS Go.BinOp.rem 3 (Go.Operand.tmp 6) (Go.Operand.const (Go.Value.int Go.IntKind.i64 10)) (vs.headD undef) (Go.Value.int Go.IntKind.i64 10)) (fun v7 w =>
    LiftP Try.prog (binS Go.BinOp.rem 3 (Go.Operand.tmp 8) (Go.Operand.const (Go.Value.int Go.IntKind.i64 10)) (vs.headD undef) (Go.Value.int Go.IntKind.i64 10)) (fun v9 w =>
    LiftP Try.prog (binS Go.BinOp.add 3 (Go.Operand.tmp 9) (Go.Operand.const (Go.Value.int Go.IntKind.i64 1)) v9 (Go.Value.int Go.IntKind.i64 1)) (fun v10 w =>
    LiftP Try.prog (Instr.sliceAt 9 (Go.Value.string { data := #[48, 49, 50, 51, 52, 53, 54, 55, 56, 57] }) (some v7) (some v10) none) (fun v11 w =>
    LiftP Try.prog (binS Go.BinOp.add 9 (Go.Operand.tmp 11) (Go.Operand.tmp 12) v11 (vs.tail.headD undef)) (fun v13 w =>
    LiftP Try.prog (binS Go.BinOp.quo 3 (Go.Operand.tmp 14) (Go.Operand.const (Go.Value.int Go.IntKind.i64 10)) (vs.headD undef) (Go.Value.int Go.IntKind.i64 10)) (fun v15 w =>
    J [v15, v13] w) w) w) w) w) w) w) (fun w =>
      LiftP Try.prog (binS Go.BinOp.lss 3 (Go.Operand.tmp 16) (Go.Operand.const (Go.Value.int Go.IntKind.i64 0)) (vs.headD undef) (Go.Value.int Go.IntKind.i64 0)) (fun v17 w =>
  CondP v17 (fun w =>
    R (vs.tail.headD undef) w) (fun w =>
    LiftP Try.prog (binS Go.BinOp.add 3 (Go.Operand.tmp 20) (Go.Operand.const (Go.Value.int Go.IntKind.i64 1)) (vs.headD undef) (Go.Value.int Go.IntKind.i64 1)) (fun v21 w =>
  LiftP Try.prog (Instr.sliceAt 9 (Go.Value.string { data := #[48, 49, 50, 51, 52, 53, 54, 55, 56, 57] }) (some (vs.headD undef)) (some v21) none) (fun v22 w =>
  LiftP Try.prog (binS Go.BinOp.add 9 (Go.Operand.tmp 22) (Go.Operand.tmp 23) v22 (vs.tail.headD undef)) (fun v24 w =>
  R v24 w) w) w) w) w) w) w) w) [a0, (Go.Value.string { data := #[] })] w
theorem S20.calls (a0 : Value) (R : Value → World → Prop) (w : World) (h : S20 a0 R w) : Calls Try.prog 20 #[a0] w fun e w' => ∃ v, e = .returned v ∧ R v w' :=
  calls_of_tr (n := 25) (c := bodyOf Try.f20) (.two .leaf (.two .leaf (.two (.one (.loop [0, 3] (.two (.two .leaf (.two .leaf .leaf)) (.one (.two .leaf .leaf))))) (.two (.two .leaf (.two (.two .leaf .leaf) .leaf)) (.two .leaf .leaf))))) Try.func20 (by kernel_rfl) Try.ntmps20 (by kernel_rfl) (by kernel_rfl) [a0] (by kernel_rfl) (of_eq_ (by kernel_rfl) h)

/-- shelfmark/vault.each -/
def S30 (a0 a1 : Value) (R : Value → World → Prop) (w : World) : Prop :=
  NextP Try.prog (builtin Go.Builtin.len #[28] 3 #[false] #[a0]) (fun v7 w =>
  LoopP (fun J vs w =>   -- [8]
    LiftP Try.prog (binS Go.BinOp.lss 3 (Go.Operand.tmp 8) (Go.Operand.tmp 7) (vs.headD undef) v7) (fun v9 w =>
    CondP v9 (fun w =>
      LiftP Try.prog (Instr.indexAt 28 a0 (vs.headD undef)) (fun v10 w =>
    LiftP Try.prog (Instr.loadAt 22 v10) (fun v11 w =>
    LiftP Try.prog (convert 22 9 v11) (fun v14 w =>
    NextP Try.prog (callV a1 #[v14]) (fun v15 w =>
    LiftP Try.prog (binS Go.BinOp.add 3 (Go.Operand.tmp 8) (Go.Operand.const (Go.Value.int Go.IntKind.i64 1)) (vs.headD undef) (Go.Value.int Go.IntKind.i64 1)) (fun v16 w =>
    J [v16] w) w) w) w) w) w) (fun w =>
      R (.tuple #[]) w) w) w) [(Go.Value.int Go.IntKind.i64 0)] w) w
theorem S30.calls (a0 a1 : Value) (R : Value → World → Prop) (w : World) (h : S30 a0 a1 R w) : Calls Try.prog 30 #[a0, a1] w fun e w' => ∃ v, e = .returned v ∧ R v w' :=
  calls_of_tr (n := 17) (c := bodyOf Try.f30) (.two .leaf (.one (.loop [8] (.two .leaf (.two (.two .leaf .leaf) (.two (.one (.two .leaf .leaf)) .leaf)))))) Try.func30 (by kernel_rfl) Try.ntmps30 (by kernel_rfl) (by kernel_rfl) [a0, a1] (by kernel_rfl) (of_eq_ (by kernel_rfl) h)

/-- (*shelfmark/vault.Vault).done -/
def S31 (a0 a1 : Value) (R : Value → World → Prop) (w : World) : Prop :=
  NextP Try.prog (nilChk a0) (fun v6 w =>
  LiftP Try.prog (Instr.fieldAt 66 v6 2) (fun v7 w =>
  LiftP Try.prog (Instr.loadAt 3 v7) (fun v8 w =>
  LiftP Try.prog (binS Go.BinOp.add 3 (Go.Operand.tmp 8) (Go.Operand.const (Go.Value.int Go.IntKind.i64 1)) v8 (Go.Value.int Go.IntKind.i64 1)) (fun v9 w =>
  NextP Try.prog (nilChk a0) (fun v10 w =>
  LiftP Try.prog (Instr.fieldAt 66 v10 2) (fun v11 w =>
  LiftU Try.prog (Instr.storeAt 3 v11 v9) (fun v_ w =>
  NextP Try.prog (nilChk a0) (fun v13 w =>
  LiftP Try.prog (Instr.fieldAt 66 v13 1) (fun v14 w =>
  LiftP Try.prog (Instr.loadAt 63 v14) (fun v15 w =>
  NextP Try.prog (invoke (.fn (.method "Do") #[]) (#[v15] ++ #[a1])) (fun v17 w =>
  R v17 w) w) w) w) w) w) w) w) w) w) w) w
theorem S31.calls (a0 a1 : Value) (R : Value → World → Prop) (w : World) (h : S31 a0 a1 R w) : Calls Try.prog 31 #[a0, a1] w fun e w' => ∃ v, e = .returned v ∧ R v w' :=
  calls_of_tr (n := 18) (c := bodyOf Try.f31) (.two .leaf (.two .leaf (.two .leaf .leaf))) Try.func31 (by kernel_rfl) Try.ntmps31 (by kernel_rfl) (by kernel_rfl) [a0, a1] (by kernel_rfl) (of_eq_ (by kernel_rfl) h)

/-- cmp.Or[shelfmark/api.Errno] -/
def S33 (a0 : Value) (R : Value → World → Prop) (w : World) : Prop :=
  NextP Try.prog (builtin Go.Builtin.len #[75] 3 #[false] #[a0]) (fun v7 w =>
  LoopP (fun J vs w =>   -- [8]
    LiftP Try.prog (binS Go.BinOp.lss 3 (Go.Operand.tmp 8) (Go.Operand.tmp 7) (vs.headD undef) v7) (fun v9 w =>
    CondP v9 (fun w =>
      LiftP Try.prog (Instr.indexAt 75 a0 (vs.headD undef)) (fun v10 w =>
    LiftP Try.prog (Instr.loadAt 25 v10) (fun v11 w =>
    LiftP Try.prog (binS Go.BinOp.neq 25 (Go.Operand.tmp 12) (Go.Operand.tmp 13) v11 (Go.Value.int Go.IntKind.i64 0)) (fun v14 w =>
    CondP v14 (fun w =>
      R v11 w) (fun w =>
      LiftP Try.prog (binS Go.BinOp.add 3 (Go.Operand.tmp 8) (Go.Operand.const (Go.Value.int Go.IntKind.i64 1)) (vs.headD undef) (Go.Value.int Go.IntKind.i64 1)) (fun v16 w =>
    J [v16] w) w) w) w) w) w) (fun w =>
      R (Go.Value.int Go.IntKind.i64 0) w) w) w) [(Go.Value.int Go.IntKind.i64 0)] w) w
theorem S33.calls (a0 : Value) (R : Value → World → Prop) (w : World) (h : S33 a0 R w) : Calls Try.prog 33 #[a0] w fun e w' => ∃ v, e = .returned v ∧ R v w' :=
  calls_of_tr (n := 18) (c := bodyOf Try.f33) (.two .leaf (.two .leaf (.two (.two .leaf (.one (.loop [8] (.two .leaf (.two (.two .leaf .leaf) (.two (.one (.two .leaf (.two .leaf (.two (.two .leaf .leaf) .leaf)))) .leaf)))))) (.two .leaf .leaf)))) Try.func33 (by kernel_rfl) Try.ntmps33 (by kernel_rfl) (by kernel_rfl) [a0] (by kernel_rfl) (of_eq_ (by kernel_rfl) h)

/-- (*shelfmark/shelfmarkref08.Tape).Do -/
def S62 (a0 a1 : Value) (R : Value → World → Prop) (w : World) : Prop :=
  NextP Try.prog (nilChk a0) (fun v7 w =>
  LiftP Try.prog (Instr.fieldAt 37 v7 0) (fun v8 w =>
  LiftP Try.prog (Instr.loadAt 9 v8) (fun v9 w =>
  NextP Try.prog (builtin Go.Builtin.len #[9] 3 #[false] #[v9]) (fun v10 w =>
  NextP Try.prog (nilChk a0) (fun v13 w =>
  LiftP Try.prog (Instr.fieldAt 37 v13 0) (fun v14 w =>
  LiftP Try.prog (Instr.loadAt 9 v14) (fun v15 w =>
  LiftP Try.prog (binS Go.BinOp.add 9 (Go.Operand.tmp 15) (Go.Operand.tmp 16) v15 a1) (fun v17 w =>
  LiftP Try.prog (binS Go.BinOp.add 9 (Go.Operand.tmp 17) (Go.Operand.const (Go.Value.string { data := #[124] })) v17 (Go.Value.string { data := #[124] })) (fun v18 w =>
  NextP Try.prog (nilChk a0) (fun v19 w =>
  LiftP Try.prog (Instr.fieldAt 37 v19 0) (fun v20 w =>
  LiftU Try.prog (Instr.storeAt 9 v20 v18) (fun v_ w =>
  NextP Try.prog (nilChk a0) (fun v22 w =>
  LiftP Try.prog (Instr.fieldAt 37 v22 1) (fun v23 w =>
  LiftP Try.prog (Instr.loadAt 3 v23) (fun v24 w =>
  LiftP Try.prog (binS Go.BinOp.add 3 (Go.Operand.tmp 24) (Go.Operand.const (Go.Value.int Go.IntKind.i64 1)) v24 (Go.Value.int Go.IntKind.i64 1)) (fun v25 w =>
  NextP Try.prog (nilChk a0) (fun v26 w =>
  LiftP Try.prog (Instr.fieldAt 37 v26 1) (fun v27 w =>
  LiftU Try.prog (Instr.storeAt 3 v27 v25) (fun v__1 w =>
  CallP Try.prog 20 #[v10] (fun v29 w =>
  R v29 w) w) w) w) w) w) w) w) w) w) w) w) w) w) w) w) w) w) w) w) w
theorem S62.calls (a0 a1 : Value) (R : Value → World → Prop) (w : World) (h : S62 a0 a1 R w) : Calls Try.prog 62 #[a0, a1] w fun e w' => ∃ v, e = .returned v ∧ R v w' :=
  calls_of_tr (n := 30) (c := bodyOf Try.f62) (.two .leaf (.two .leaf (.two .leaf (.two .leaf (.two .leaf .leaf))))) Try.func62 (by kernel_rfl) Try.ntmps62 (by kernel_rfl) (by kernel_rfl) [a0, a1] (by kernel_rfl) (of_eq_ (by kernel_rfl) h)

/-- (*shelfmark/shelfmarkref08.Tape).Load -/
def S63 (a0 a1 : Value) (R : Value → World → Prop) (w : World) : Prop :=
  LiftP Try.prog (binS Go.BinOp.eql 9 (Go.Operand.tmp 5) (Go.Operand.const (Go.Value.string { data := #[] })) a1 (Go.Value.string { data := #[] })) (fun v6 w =>
  GuardP v6 false (fun K w => K a1 w) (fun v8 w =>
  GuardP v6 false (fun K w => LiftP Try.prog (Instr.index 9 v8 (Go.Value.int Go.IntKind.i64 0)) K w) (fun v9 w =>
  GuardP v6 false (fun K w => LiftP Try.prog (binS Go.BinOp.neq 5 (Go.Operand.tmp 9) (Go.Operand.const (Go.Value.int Go.IntKind.u8 61)) v9 (Go.Value.int Go.IntKind.u8 61)) K w) (fun v10 w =>
  PickP v6 (Go.Value.bool true) v10 (fun v11 w =>
  CondP v11 (fun w =>
    R (Go.Value.bool false) w) (fun w =>
    LiftP Try.prog (Instr.sliceAt 9 a1 (some (Go.Value.int Go.IntKind.i64 1)) none none) (fun v14 w =>
  NextP Try.prog (nilChk a0) (fun v15 w =>
  LiftP Try.prog (Instr.fieldAt 37 v15 0) (fun v16 w =>
  LiftU Try.prog (Instr.storeAt 9 v16 v14) (fun v_ w =>
  R (Go.Value.bool true) w) w) w) w) w) w) w) w) w) w) w
theorem S63.calls (a0 a1 : Value) (R : Value → World → Prop) (w : World) (h : S63 a0 a1 R w) : Calls Try.prog 63 #[a0, a1] w fun e w' => ∃ v, e = .returned v ∧ R v w' :=
  calls_of_tr (n := 17) (c := bodyOf Try.f63) (.two .leaf (.two (.two .leaf (.two (.two .leaf .leaf) .leaf)) (.two .leaf (.two .leaf .leaf)))) Try.func63 (by kernel_rfl) Try.ntmps63 (by kernel_rfl) (by kernel_rfl) [a0, a1] (by kernel_rfl) (of_eq_ (by kernel_rfl) h)

/-- (*shelfmark/shelfmarkref08.Tape).Save -/
def S64 (a0 : Value) (R : Value → World → Prop) (w : World) : Prop :=
  NextP Try.prog (nilChk a0) (fun v4 w =>
  LiftP Try.prog (Instr.fieldAt 37 v4 0) (fun v5 w =>
  LiftP Try.prog (Instr.loadAt 9 v5) (fun v6 w =>
  LiftP Try.prog (binS Go.BinOp.add 9 (Go.Operand.const (Go.Value.string { data := #[61] })) (Go.Operand.tmp 6) (Go.Value.string { data := #[61] }) v6) (fun v7 w =>
  R v7 w) w) w) w) w
theorem S64.calls (a0 : Value) (R : Value → World → Prop) (w : World) (h : S64 a0 R w) : Calls Try.prog 64 #[a0] w fun e w' => ∃ v, e = .returned v ∧ R v w' :=
  calls_of_tr (n := 8) (c := bodyOf Try.f64) (.two .leaf (.two .leaf .leaf)) Try.func64 (by kernel_rfl) Try.ntmps64 (by kernel_rfl) (by kernel_rfl) [a0] (by kernel_rfl) (of_eq_ (by kernel_rfl) h)

end Go.Proofs.Ytadbpelpbaikiaa.E
