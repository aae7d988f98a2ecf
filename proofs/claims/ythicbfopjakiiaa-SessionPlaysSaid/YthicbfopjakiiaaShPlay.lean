import Derived.Test.YthicbfopjakiiaaE4
import Derived.Test.YthicbfopjakiiaaProg
import Derived.KernelRfl
namespace Go.Proofs.Ythicbfopjakiiaa.E
open Go
set_option maxRecDepth 100000

/-- shelfmark/shelfmarklaw15.SessionPlays -/
def S5 (a0 : Value) (R : Value → World → Prop) (w : World) : Prop :=
  CallP Try.prog 11 #[] (fun v16 w =>
  LiftP Try.prog (Op.unary Go.UnOp.not v16) (fun v17 w =>
  CondP v17 (fun w =>
    R (Go.Value.bool false) w) (fun w =>
    NextP Try.prog (builtin Go.Builtin.len #[47] 3 #[false] #[a0]) (fun v19 w =>
  LiftP Try.prog (binS Go.BinOp.gtr 3 (Go.Operand.tmp 19) (Go.Operand.const (Go.Value.int Go.IntKind.i64 400)) v19 (Go.Value.int Go.IntKind.i64 400)) (fun v20 w =>
  CondP v20 (fun w =>
    R (Go.Value.bool true) w) (fun w =>
    CallP Try.prog 12 #[] (fun v21 w =>
  LiftP Try.prog (Instr.build 42 #[]) (fun v22 w =>
  LiftP Try.prog (Instr.box 42 v22) (fun v23 w =>
  LoopP (fun J vs w =>   -- [3, 5]
    NextP Try.prog (builtin Go.Builtin.len #[47] 3 #[false] #[a0]) (fun v26 w =>
    LiftP Try.prog (binS Go.BinOp.lss 3 (Go.Operand.tmp 24) (Go.Operand.tmp 26) (vs.tail.headD undef) v26) (fun v27 w =>
    CondP v27 (fun w =>
      LiftP Try.prog (Instr.indexAt 47 a0 (vs.tail.headD undef)) (fun v32 w =>
    LiftP Try.prog (Instr.loadAt 49 v32) (fun v33 w =>
    LiftP Try.prog (Instr.alloc 49 true (.tuple #[])) (fun v6 w =>
    LiftU Try.prog (Instr.storeAt 49 v6 v33) (fun v_ w =>
    LiftP Try.prog (Instr.fieldAt 49 v6 1) (fun v34 w =>
    LiftP Try.prog (Instr.loadAt 9 v34) (fun v35 w =>
    NextP Try.prog (builtin Go.Builtin.len #[9] 3 #[false] #[v35]) (fun v36 w =>
    LiftP Try.prog (binS Go.BinOp.gtr 3 (Go.Operand.tmp 36) (Go.Operand.const (Go.Value.int Go.IntKind.i64 200)) v36 (Go.Value.int Go.IntKind.i64 200)) (fun v37 w =>
    CondP v37 (fun w =>
      R (Go.Value.bool true) w) (fun w =>
      JoinP (fun J_1 w =>
      LiftP Try.prog (Instr.fieldAt 49 v6 0) (fun v38 w =>
      LiftP Try.prog (Instr.loadAt 3 v38) (fun v39 w =>
      LiftP Try.prog (binS Go.BinOp.eql 3 (Go.Operand.tmp 39) (Go.Operand.const (Go.Value.int Go.IntKind.i64 1)) v39 (Go.Value.int Go.IntKind.i64 1)) (fun v41 w =>
      CondP v41 (fun w =>
        LiftP Try.prog (Instr.fieldAt 49 v6 1) (fun v44 w =>
        LiftP Try.prog (Instr.loadAt 9 v44) (fun v45 w =>
        CallP Try.prog 13 #[(vs.headD undef), v45] (fun v46 w =>
        LiftP Try.prog (Instr.extract v46 0) (fun v47 w =>
        LiftP Try.prog (Instr.extract v46 1) (fun v48 w =>
        LiftP Try.prog (Instr.fieldAt 49 v6 1) (fun v51 w =>
        LiftP Try.prog (Instr.loadAt 9 v51) (fun v52 w =>
        CallP Try.prog 23 #[v23, v52] (fun v53 w =>
        LiftP Try.prog (Instr.extract v53 0) (fun v54 w =>
        LiftP Try.prog (Instr.extract v53 1) (fun v55 w =>
        LiftP Try.prog (binS Go.BinOp.neq 3 (Go.Operand.tmp 56) (Go.Operand.tmp 57) v47 v54) (fun v58 w =>
        GuardP v58 false (fun K w => K v48 w) (fun v60 w =>
        GuardP v58 false (fun K w => K v55 w) (fun v61 w =>
        GuardP v58 false (fun K w => LiftP Try.prog (binS Go.BinOp.neq 25 (Go.Operand.tmp 60) (Go.Operand.tmp 61) v60 v61) K w) (fun v62 w =>
        PickP v58 (Go.Value.bool true) v62 (fun v63 w =>
        CondP v63 (fun w =>
          R (Go.Value.bool false) w) (fun w =>
          J_1 [(vs.headD undef)] w) w) w) w) w) w) w) w) w) w) w) w) w) w) w) w) w) (fun w =>
        LiftP Try.prog (binS Go.BinOp.eql 3 (Go.Operand.tmp 39) (Go.Operand.const (Go.Value.int Go.IntKind.i64 2)) v39 (Go.Value.int Go.IntKind.i64 2)) (fun v65 w =>
        CondP v65 (fun w =>
          LiftP Try.prog (Instr.fieldAt 49 v6 2) (fun v68 w =>
          LiftP Try.prog (Instr.loadAt 3 v68) (fun v69 w =>
          CallP Try.prog 18 #[v23, v69] (fun v70 w =>
          LiftP Try.prog (Instr.extract v70 0) (fun v71 w =>
          LiftP Try.prog (Instr.extract v70 1) (fun v72 w =>
          LiftP Try.prog (Instr.fieldAt 49 v6 2) (fun v74 w =>
          LiftP Try.prog (Instr.loadAt 3 v74) (fun v75 w =>
          CallP Try.prog 22 #[(vs.headD undef), v75] (fun v76 w =>
          CallP Try.prog 21 #[v76, v71, v72] (fun v79 w =>
          LiftP Try.prog (Op.unary Go.UnOp.not v79) (fun v80 w =>
          CondP v80 (fun w =>
            R (Go.Value.bool false) w) (fun w =>
            J_1 [(vs.headD undef)] w) w) w) w) w) w) w) w) w) w) w) w) (fun w =>
          LiftP Try.prog (binS Go.BinOp.eql 3 (Go.Operand.tmp 39) (Go.Operand.const (Go.Value.int Go.IntKind.i64 3)) v39 (Go.Value.int Go.IntKind.i64 3)) (fun v82 w =>
          CondP v82 (fun w =>
            DrawP (fun S w =>
            YieldP Try.prog S (Instr.fieldAt 49 v6 2) (fun v84 w =>
            YieldP Try.prog S (Instr.loadAt 3 v84) (fun v85 w =>
            YieldP Try.prog S (Instr.fieldAt 49 v6 1) (fun v86 w =>
            YieldP Try.prog S (Instr.loadAt 9 v86) (fun v87 w =>
            YieldP Try.prog S (Instr.fieldAt 49 v6 2) (fun v90 w =>
            YieldP Try.prog S (Instr.loadAt 3 v90) (fun v91 w =>
            ActP S (fun K w => CallP Try.prog 24 #[(vs.headD undef), v85, v87] K w) (fun S v88 w =>
            ActP S (fun K w => CallP Try.prog 25 #[v23, v91] K w) (fun S v92 w =>
            YieldP Try.prog S (binS Go.BinOp.neq 4 (Go.Operand.tmp 88) (Go.Operand.tmp 92) v88 v92) (fun v93 w =>
            CondP v93 (fun w =>
              R (Go.Value.bool false) w) (fun w =>
              J_1 [(vs.headD undef)] w) w) w) w) w) w) w) w) w) w) w) w) (fun w =>
            LiftP Try.prog (binS Go.BinOp.eql 3 (Go.Operand.tmp 39) (Go.Operand.const (Go.Value.int Go.IntKind.i64 4)) v39 (Go.Value.int Go.IntKind.i64 4)) (fun v95 w =>
            CondP v95 (fun w =>
              DrawP (fun S w =>
              YieldP Try.prog S (Instr.fieldAt 49 v6 2) (fun v97 w =>
              YieldP Try.prog S (Instr.loadAt 3 v97) (fun v98 w =>
              YieldP Try.prog S (Instr.fieldAt 49 v6 2) (fun v101 w =>
              YieldP Try.prog S (Instr.loadAt 3 v101) (fun v102 w =>
              ActP S (fun K w => CallP Try.prog 15 #[(vs.headD undef), v98] K w) (fun S v99 w =>
              ActP S (fun K w => CallP Try.prog 26 #[v23, v102] K w) (fun S v103 w =>
              YieldP Try.prog S (binS Go.BinOp.neq 3 (Go.Operand.tmp 99) (Go.Operand.tmp 103) v99 v103) (fun v104 w =>
              CondP v104 (fun w =>
                R (Go.Value.bool false) w) (fun w =>
                J_1 [(vs.headD undef)] w) w) w) w) w) w) w) w) w) w) (fun w =>
              LiftP Try.prog (binS Go.BinOp.eql 3 (Go.Operand.tmp 39) (Go.Operand.const (Go.Value.int Go.IntKind.i64 5)) v39 (Go.Value.int Go.IntKind.i64 5)) (fun v106 w =>
              CondP v106 (fun w =>
                CallP Try.prog 19 #[(vs.headD undef)] (fun v108 w =>
                CallP Try.prog 16 #[v108] (fun v111 w =>
                LiftP Try.prog (Instr.extract v111 0) (fun v112 w =>
                LiftP Try.prog (Instr.extract v111 1) (fun v113 w =>
                CallP Try.prog 27 #[v23] (fun v116 w =>
                LiftP Try.prog (binS Go.BinOp.neq 9 (Go.Operand.tmp 114) (Go.Operand.tmp 116) v108 v116) (fun v117 w =>
                GuardP v117 false (fun K w => K v112 w) (fun v119 w =>
                GuardP v117 false (fun K w => LiftP Try.prog (binS Go.BinOp.eql 23 (Go.Operand.tmp 119) (Go.Operand.const (Go.Value.pointer none)) v119 (Go.Value.pointer none)) K w) (fun v120 w =>
                PickP v117 (Go.Value.bool true) v120 (fun v121 w =>
                GuardP v121 false (fun K w => K v113 w) (fun v123 w =>
                GuardP v121 false (fun K w => LiftP Try.prog (binS Go.BinOp.neq 25 (Go.Operand.tmp 123) (Go.Operand.const (Go.Value.int Go.IntKind.i64 0)) v123 (Go.Value.int Go.IntKind.i64 0)) K w) (fun v124 w =>
                PickP v121 (Go.Value.bool true) v124 (fun v125 w =>
                CondP v125 (fun w =>
                  R (Go.Value.bool false) w) (fun w =>
                  J_1 [v112] w) w) w) w) w) w) w) w) w) w) w) w) w) w) (fun w =>
                J_1 [(vs.headD undef)] w) w) w) w) w) w) w) w) w) w) w) w) w) (fun vs_1 w =>   -- [3]
    DrawP (fun S w =>
    YieldN Try.prog S (nilChk v23) (fun v130 w =>
    YieldP Try.prog S (Instr.fieldAt 42 v130 0) (fun v131 w =>
    YieldP Try.prog S (Instr.loadAt 3 v131) (fun v132 w =>
    ActP S (fun K w => CallP Try.prog 20 #[(vs_1.headD undef)] K w) (fun S v128 w =>
    YieldP Try.prog S (binS Go.BinOp.neq 3 (Go.Operand.tmp 128) (Go.Operand.tmp 132) v128 v132) (fun v133 w =>
    GuardP v133 false (fun K w => K (vs_1.headD undef) w) (fun v135 w =>
    GuardP v133 false (fun K w => K v23 w) (fun v137 w =>
    GuardP v133 false (fun K w => YieldN Try.prog S (nilChk v137) K w) (fun v138 w =>
    GuardP v133 false (fun K w => YieldP Try.prog S (Instr.fieldAt 42 v138 2) K w) (fun v139 w =>
    GuardP v133 false (fun K w => YieldP Try.prog S (Instr.loadAt 37 v139) K w) (fun v140 w =>
    GuardP v133 false (fun K w => YieldN Try.prog S (builtin Go.Builtin.len #[37] 3 #[false] #[v140]) K w) (fun v141 w =>
    GuardA v133 false S (fun K w => CallP Try.prog 14 #[v135] K w) (fun S v136 w =>
    GuardP v133 false (fun K w => YieldP Try.prog S (binS Go.BinOp.neq 3 (Go.Operand.tmp 136) (Go.Operand.tmp 141) v136 v141) K w) (fun v142 w =>
    PickP v133 (Go.Value.bool true) v142 (fun v143 w =>
    CondP v143 (fun w =>
      R (Go.Value.bool false) w) (fun w =>
      LiftP Try.prog (binS Go.BinOp.add 3 (Go.Operand.tmp 28) (Go.Operand.const (Go.Value.int Go.IntKind.i64 1)) (vs.tail.headD undef) (Go.Value.int Go.IntKind.i64 1)) (fun v29 w =>
    J [(vs_1.headD undef), v29] w) w) w) w) w) w) w) w) w) w) w) w) w) w) w) w) w) w) w) w) w) w) w) w) w) w) w) w) (fun w =>
      R (Go.Value.bool true) w) w) w) w) [v21, (Go.Value.int Go.IntKind.i64 0)] w) w) w) w) w) w) w) w) w) w
theorem S5.calls (a0 : Value) (R : Value → World → Prop) (w : World) (h : S5 a0 R w) : Calls Try.prog 5 #[a0] w fun e w' => ∃ v, e = .returned v ∧ R v w' :=
  calls_of_tr (n := 144) (c := bodyOf Try.f5) (.two .leaf (.two (.two .leaf (.two (.two .leaf .leaf) .leaf)) (.two (.two .leaf (.two (.two .leaf .leaf) .leaf)) (.two .leaf (.two (.two .leaf (.one (.loop [3, 5] (.two (.two .leaf (.two .leaf .leaf)) (.two (.one (.two .leaf (.two (.two .leaf (.two (.two .leaf .leaf) .leaf)) (.join [3] (.two .leaf (.one (.two .leaf (.two (.two .leaf (.two .leaf (.two .leaf (.two (.two .leaf .leaf) .leaf)))) (.two .leaf (.two (.two .leaf (.two .leaf (.two (.two .leaf .leaf) .leaf))) (.two .leaf (.two (.two (.draw [(true, 0), (true, 1), (true, 2), (true, 3), (true, 4), (true, 6), (true, 7), (true, 8), (false, 5), (false, 9), (true, 10)]) (.two (.two .leaf .leaf) .leaf)) (.two .leaf (.two (.two (.draw [(true, 0), (true, 1), (true, 2), (true, 4), (true, 5), (true, 6), (false, 3), (false, 7), (true, 8)]) (.two (.two .leaf .leaf) .leaf)) (.two .leaf (.two (.two .leaf (.two .leaf (.two (.two .leaf (.two (.two .leaf .leaf) .leaf)) .leaf))) .leaf)))))))))))) (.two (.draw [(true, 0), (true, 2), (true, 3), (true, 4), (true, 5), (false, 1), (true, 6), (true, 7), (true, 8), (true, 10), (true, 11), (true, 12), (true, 13), (true, 14), (false, 9), (true, 15), (true, 16)]) (.two (.two .leaf .leaf) .leaf)))))) .leaf))))) (.two .leaf .leaf)))))) Try.func5 (by kernel_rfl) Try.ntmps5 (by kernel_rfl) (by kernel_rfl) [a0] (by kernel_rfl) (of_eq_ (by kernel_rfl) h)

/-- (*shelfmark/shelfmarkref15.End).Send -/
def S23 (a0 a1 : Value) (R : Value → World → Prop) (w : World) : Prop :=
  NextP Try.prog (builtin Go.Builtin.len #[9] 3 #[false] #[a1]) (fun v7 w =>
  LiftP Try.prog (binS Go.BinOp.gtr 3 (Go.Operand.tmp 7) (Go.Operand.const (Go.Value.int Go.IntKind.i64 65536)) v7 (Go.Value.int Go.IntKind.i64 65536)) (fun v8 w =>
  CondP v8 (fun w =>
    R (.tuple #[(Go.Value.int Go.IntKind.i64 0), (Go.Value.int Go.IntKind.i64 4)]) w) (fun w =>
    DrawP (fun S w =>
  YieldN Try.prog S (nilChk a0) (fun v10 w =>
  YieldP Try.prog S (Instr.fieldAt 42 v10 2) (fun v11 w =>
  YieldP Try.prog S (Instr.loadAt 37 v11) (fun v12 w =>
  YieldN Try.prog S (builtin Go.Builtin.len #[37] 3 #[false] #[v12]) (fun v13 w =>
  YieldP Try.prog S (binS Go.BinOp.geq 3 (Go.Operand.tmp 13) (Go.Operand.const (Go.Value.int Go.IntKind.i64 256)) v13 (Go.Value.int Go.IntKind.i64 256)) (fun v14 w =>
  GuardP v14 false (fun K w => K a0 w) (fun v16 w =>
  GuardP v14 false (fun K w => YieldN Try.prog S (nilChk v16) K w) (fun v17 w =>
  GuardP v14 false (fun K w => YieldP Try.prog S (Instr.fieldAt 42 v17 1) K w) (fun v18 w =>
  GuardP v14 false (fun K w => YieldP Try.prog S (Instr.loadAt 3 v18) K w) (fun v19 w =>
  GuardP v14 false (fun K w => K a0 w) (fun v20 w =>
  GuardP v14 false (fun K w => YieldN Try.prog S (nilChk v20) K w) (fun v21 w =>
  GuardP v14 false (fun K w => YieldP Try.prog S (Instr.fieldAt 42 v21 2) K w) (fun v22 w =>
  GuardP v14 false (fun K w => YieldP Try.prog S (Instr.loadAt 37 v22) K w) (fun v23 w =>
  GuardP v14 false (fun K w => YieldN Try.prog S (builtin Go.Builtin.len #[37] 3 #[false] #[v23]) K w) (fun v24 w =>
  GuardP v14 false (fun K w => YieldP Try.prog S (binS Go.BinOp.add 3 (Go.Operand.tmp 19) (Go.Operand.tmp 24) v19 v24) K w) (fun v25 w =>
  GuardP v14 false (fun K w => YieldP Try.prog S (binS Go.BinOp.geq 3 (Go.Operand.tmp 25) (Go.Operand.const (Go.Value.int Go.IntKind.i64 1099511627776)) v25 (Go.Value.int Go.IntKind.i64 1099511627776)) K w) (fun v26 w =>
  PickP v14 (Go.Value.bool true) v26 (fun v27 w =>
  CondP v27 (fun w =>
    R (.tuple #[(Go.Value.int Go.IntKind.i64 0), (Go.Value.int Go.IntKind.i64 17)]) w) (fun w =>
    NextP Try.prog (nilChk a0) (fun v30 w =>
  LiftP Try.prog (Instr.fieldAt 42 v30 2) (fun v31 w =>
  LiftP Try.prog (Instr.loadAt 37 v31) (fun v32 w =>
  LiftP Try.prog (Instr.buildSlice 37 1 #[(0, a1)]) (fun v34 w =>
  NextP Try.prog (builtin Go.Builtin.append #[37, 37] 37 #[false, false] #[v32, v34]) (fun v35 w =>
  NextP Try.prog (nilChk a0) (fun v36 w =>
  LiftP Try.prog (Instr.fieldAt 42 v36 2) (fun v37 w =>
  LiftU Try.prog (Instr.storeAt 37 v37 v35) (fun v_ w =>
  DrawP (fun S w =>
  YieldN Try.prog S (nilChk a0) (fun v39 w =>
  YieldP Try.prog S (Instr.fieldAt 42 v39 1) (fun v40 w =>
  YieldP Try.prog S (Instr.loadAt 3 v40) (fun v41 w =>
  YieldN Try.prog S (nilChk a0) (fun v43 w =>
  YieldP Try.prog S (Instr.fieldAt 42 v43 2) (fun v44 w =>
  YieldP Try.prog S (Instr.loadAt 37 v44) (fun v45 w =>
  YieldN Try.prog S (builtin Go.Builtin.len #[37] 3 #[false] #[v45]) (fun v46 w =>
  YieldP Try.prog S (binS Go.BinOp.add 3 (Go.Operand.tmp 41) (Go.Operand.tmp 46) v41 v46) (fun v47 w =>
  R (.tuple #[v47, (Go.Value.int Go.IntKind.i64 0)]) w) w) w) w) w) w) w) w) w) w) w) w) w) w) w) w) w) w) w) w) w) w) w) w) w) w) w) w) w) w) w) w) w) w) w) w) w) w) w) w
theorem S23.calls (a0 a1 : Value) (R : Value → World → Prop) (w : World) (h : S23 a0 a1 R w) : Calls Try.prog 23 #[a0, a1] w fun e w' => ∃ v, e = .returned v ∧ R v w' :=
  calls_of_tr (n := 48) (c := bodyOf Try.f23) (.two .leaf (.two (.two .leaf (.two (.two .leaf .leaf) .leaf)) (.two (.two (.draw [(true, 0), (true, 1), (true, 2), (true, 3), (true, 4), (true, 5), (true, 6), (true, 7), (true, 8), (true, 9), (true, 10), (true, 11), (true, 12), (true, 13), (true, 14), (true, 15), (true, 16), (true, 17), (true, 18)]) (.two (.two .leaf .leaf) .leaf)) (.two .leaf (.two (.draw [(true, 0), (true, 1), (true, 2), (true, 3), (true, 4), (true, 5), (true, 6), (true, 7), (true, 8), (true, 9), (true, 10), (true, 11)]) .leaf))))) Try.func23 (by kernel_rfl) Try.ntmps23 (by kernel_rfl) (by kernel_rfl) [a0, a1] (by kernel_rfl) (of_eq_ (by kernel_rfl) h)

/-- (*shelfmark/shelfmarkref15.End).Take -/
def S25 (a0 a1 : Value) (R : Value → World → Prop) (w : World) : Prop :=
  LiftP Try.prog (binS Go.BinOp.lss 3 (Go.Operand.tmp 5) (Go.Operand.const (Go.Value.int Go.IntKind.i64 1)) a1 (Go.Value.int Go.IntKind.i64 1)) (fun v6 w =>
  GuardP v6 false (fun K w => K a1 w) (fun v8 w =>
  GuardP v6 false (fun K w => LiftP Try.prog (binS Go.BinOp.gtr 3 (Go.Operand.tmp 8) (Go.Operand.const (Go.Value.int Go.IntKind.i64 1099511627776)) v8 (Go.Value.int Go.IntKind.i64 1099511627776)) K w) (fun v9 w =>
  PickP v6 (Go.Value.bool true) v9 (fun v10 w =>
  GuardP v10 false (fun K w => K a1 w) (fun v12 w =>
  GuardP v10 false (fun K w => LiftP Try.prog (binS Go.BinOp.sub 3 (Go.Operand.tmp 12) (Go.Operand.const (Go.Value.int Go.IntKind.i64 1)) v12 (Go.Value.int Go.IntKind.i64 1)) K w) (fun v13 w =>
  GuardP v10 false (fun K w => K a0 w) (fun v14 w =>
  GuardP v10 false (fun K w => NextP Try.prog (nilChk v14) K w) (fun v15 w =>
  GuardP v10 false (fun K w => LiftP Try.prog (Instr.fieldAt 42 v15 0) K w) (fun v16 w =>
  GuardP v10 false (fun K w => LiftP Try.prog (Instr.loadAt 3 v16) K w) (fun v17 w =>
  GuardP v10 false (fun K w => LiftP Try.prog (binS Go.BinOp.neq 3 (Go.Operand.tmp 13) (Go.Operand.tmp 17) v13 v17) K w) (fun v18 w =>
  PickP v10 (Go.Value.bool true) v18 (fun v19 w =>
  CondP v19 (fun w =>
    R (Go.Value.bool false) w) (fun w =>
    NextP Try.prog (nilChk a0) (fun v22 w =>
  LiftP Try.prog (Instr.fieldAt 42 v22 0) (fun v23 w =>
  LiftU Try.prog (Instr.storeAt 3 v23 a1) (fun v_ w =>
  R (Go.Value.bool true) w) w) w) w) w) w) w) w) w) w) w) w) w) w) w) w) w
theorem S25.calls (a0 a1 : Value) (R : Value → World → Prop) (w : World) (h : S25 a0 a1 R w) : Calls Try.prog 25 #[a0, a1] w fun e w' => ∃ v, e = .returned v ∧ R v w' :=
  calls_of_tr (n := 24) (c := bodyOf Try.f25) (.two .leaf (.two (.two .leaf (.two (.two .leaf .leaf) .leaf)) (.two .leaf (.two .leaf .leaf)))) Try.func25 (by kernel_rfl) Try.ntmps25 (by kernel_rfl) (by kernel_rfl) [a0, a1] (by kernel_rfl) (of_eq_ (by kernel_rfl) h)

/-- (*shelfmark/shelfmarkref15.End).Acked -/
def S26 (a0 a1 : Value) (R : Value → World → Prop) (w : World) : Prop :=
  DrawP (fun S w =>
  YieldN Try.prog S (nilChk a0) (fun v9 w =>
  YieldP Try.prog S (Instr.fieldAt 42 v9 1) (fun v10 w =>
  YieldP Try.prog S (Instr.loadAt 3 v10) (fun v11 w =>
  YieldP Try.prog S (binS Go.BinOp.leq 3 (Go.Operand.tmp 7) (Go.Operand.tmp 11) a1 v11) (fun v12 w =>
  GuardP v12 false (fun K w => K a1 w) (fun v14 w =>
  GuardP v12 false (fun K w => K a0 w) (fun v15 w =>
  GuardP v12 false (fun K w => YieldN Try.prog S (nilChk v15) K w) (fun v16 w =>
  GuardP v12 false (fun K w => YieldP Try.prog S (Instr.fieldAt 42 v16 1) K w) (fun v17 w =>
  GuardP v12 false (fun K w => YieldP Try.prog S (Instr.loadAt 3 v17) K w) (fun v18 w =>
  GuardP v12 false (fun K w => K a0 w) (fun v19 w =>
  GuardP v12 false (fun K w => YieldN Try.prog S (nilChk v19) K w) (fun v20 w =>
  GuardP v12 false (fun K w => YieldP Try.prog S (Instr.fieldAt 42 v20 2) K w) (fun v21 w =>
  GuardP v12 false (fun K w => YieldP Try.prog S (Instr.loadAt 37 v21) K w) (fun v22 w =>
  GuardP v12 false (fun K w => YieldN Try.prog S (builtin Go.Builtin.len #[37] 3 #[false] #[v22]) K w) (fun v23 w =>
  GuardP v12 false (fun K w => YieldP Try.prog S (binS Go.BinOp.add 3 (Go.Operand.tmp 18) (Go.Operand.tmp 23) v18 v23) K w) (fun v24 w =>
  GuardP v12 false (fun K w => YieldP Try.prog S (binS Go.BinOp.gtr 3 (Go.Operand.tmp 14) (Go.Operand.tmp 24) v14 v24) K w) (fun v25 w =>
  PickP v12 (Go.Value.bool true) v25 (fun v26 w =>
  CondP v26 (fun w =>
    R (Go.Value.int Go.IntKind.i64 0) w) (fun w =>
    NextP Try.prog (nilChk a0) (fun v29 w =>
  LiftP Try.prog (Instr.fieldAt 42 v29 1) (fun v30 w =>
  LiftP Try.prog (Instr.loadAt 3 v30) (fun v31 w =>
  LiftP Try.prog (binS Go.BinOp.sub 3 (Go.Operand.tmp 27) (Go.Operand.tmp 31) a1 v31) (fun v32 w =>
  NextP Try.prog (nilChk a0) (fun v36 w =>
  LiftP Try.prog (Instr.fieldAt 42 v36 2) (fun v37 w =>
  LiftP Try.prog (Instr.loadAt 37 v37) (fun v38 w =>
  LiftP Try.prog (Instr.sliceAt 37 v38 (some v32) none none) (fun v40 w =>
  NextP Try.prog (builtin Go.Builtin.append #[37, 37] 37 #[false, false] #[(Go.Value.slice none 0 0), v40]) (fun v41 w =>
  NextP Try.prog (nilChk a0) (fun v42 w =>
  LiftP Try.prog (Instr.fieldAt 42 v42 2) (fun v43 w =>
  LiftU Try.prog (Instr.storeAt 37 v43 v41) (fun v_ w =>
  NextP Try.prog (nilChk a0) (fun v46 w =>
  LiftP Try.prog (Instr.fieldAt 42 v46 1) (fun v47 w =>
  LiftU Try.prog (Instr.storeAt 3 v47 a1) (fun v__1 w =>
  R v32 w) w) w) w) w) w) w) w) w) w) w) w) w) w) w) w) w) w) w) w) w) w) w) w) w) w) w) w) w) w) w) w) w) w) w
theorem S26.calls (a0 a1 : Value) (R : Value → World → Prop) (w : World) (h : S26 a0 a1 R w) : Calls Try.prog 26 #[a0, a1] w fun e w' => ∃ v, e = .returned v ∧ R v w' :=
  calls_of_tr (n := 49) (c := bodyOf Try.f26) (.two .leaf (.two (.two (.draw [(true, 0), (true, 1), (true, 2), (true, 3), (true, 4), (true, 5), (true, 6), (true, 7), (true, 8), (true, 9), (true, 10), (true, 11), (true, 12), (true, 13), (true, 14), (true, 15), (true, 16), (true, 17), (true, 18), (true, 19)]) (.two (.two .leaf .leaf) .leaf)) (.two .leaf (.two .leaf (.two .leaf (.two .leaf (.two .leaf .leaf))))))) Try.func26 (by kernel_rfl) Try.ntmps26 (by kernel_rfl) (by kernel_rfl) [a0, a1] (by kernel_rfl) (of_eq_ (by kernel_rfl) h)

/-- (*shelfmark/shelfmarkref15.End).Save -/
def S27 (a0 : Value) (R : Value → World → Prop) (w : World) : Prop :=
  DrawP (fun S w =>
  YieldN Try.prog S (nilChk a0) (fun v5 w =>
  YieldP Try.prog S (Instr.fieldAt 42 v5 0) (fun v6 w =>
  YieldP Try.prog S (Instr.loadAt 3 v6) (fun v7 w =>
  YieldN Try.prog S (nilChk a0) (fun v10 w =>
  YieldP Try.prog S (Instr.fieldAt 42 v10 1) (fun v11 w =>
  YieldP Try.prog S (Instr.loadAt 3 v11) (fun v12 w =>
  YieldN Try.prog S (nilChk a0) (fun v14 w =>
  YieldP Try.prog S (Instr.fieldAt 42 v14 2) (fun v15 w =>
  YieldP Try.prog S (Instr.loadAt 37 v15) (fun v16 w =>
  YieldN Try.prog S (builtin Go.Builtin.len #[37] 3 #[false] #[v16]) (fun v17 w =>
  YieldP Try.prog S (binS Go.BinOp.add 3 (Go.Operand.tmp 12) (Go.Operand.tmp 17) v12 v17) (fun v18 w =>
  ActP S (fun K w => CallP Try.prog 57 #[v7] K w) (fun S v8 w =>
  ActP S (fun K w => CallP Try.prog 57 #[v18] K w) (fun S v19 w =>
  ActP S (fun K w => NextP Try.prog (builtin Go.Builtin.append #[30, 30] 30 #[false, false] #[v8, v19]) K w) (fun S v20 w =>
  NextP Try.prog (nilChk a0) (fun v23 w =>
  LiftP Try.prog (Instr.fieldAt 42 v23 2) (fun v24 w =>
  LiftP Try.prog (Instr.loadAt 37 v24) (fun v25 w =>
  CallP Try.prog 58 #[v25] (fun v26 w =>
  NextP Try.prog (builtin Go.Builtin.append #[30, 30] 30 #[false, false] #[v20, v26]) (fun v27 w =>
  LiftP Try.prog (convert 30 9 v27) (fun v28 w =>
  R v28 w) w) w) w) w) w) w) w) w) w) w) w) w) w) w) w) w) w) w) w) w) w
theorem S27.calls (a0 : Value) (R : Value → World → Prop) (w : World) (h : S27 a0 R w) : Calls Try.prog 27 #[a0] w fun e w' => ∃ v, e = .returned v ∧ R v w' :=
  calls_of_tr (n := 29) (c := bodyOf Try.f27) (.two .leaf (.two (.draw [(true, 0), (true, 1), (true, 2), (true, 3), (true, 5), (true, 6), (true, 7), (true, 8), (true, 9), (true, 10), (true, 11), (true, 12), (true, 13), (true, 14), (false, 4), (false, 15), (false, 16), (true, 17)]) (.two .leaf .leaf))) Try.func27 (by kernel_rfl) Try.ntmps27 (by kernel_rfl) (by kernel_rfl) [a0] (by kernel_rfl) (of_eq_ (by kernel_rfl) h)

/-- shelfmark/shelfmarkref01.Num -/
def S57 (a0 : Value) (R : Value → World → Prop) (w : World) : Prop :=
  LiftP Try.prog (binS Go.BinOp.lss 3 (Go.Operand.tmp 3) (Go.Operand.const (Go.Value.int Go.IntKind.i64 0)) a0 (Go.Value.int Go.IntKind.i64 0)) (fun v4 w =>
  CondP v4 (fun w =>
    R (Go.Value.slice none 0 0) w) (fun w =>
    LiftP Try.prog (binS Go.BinOp.lss 3 (Go.Operand.tmp 5) (Go.Operand.const (Go.Value.int Go.IntKind.i64 128)) a0 (Go.Value.int Go.IntKind.i64 128)) (fun v6 w =>
  CondP v6 (fun w =>
    LiftP Try.prog (convert 3 5 a0) (fun v8 w =>
    LiftP Try.prog (Instr.buildSlice 30 1 #[(0, v8)]) (fun v9 w =>
    R v9 w) w) w) (fun w =>
    LiftP Try.prog (binS Go.BinOp.rem 3 (Go.Operand.tmp 10) (Go.Operand.const (Go.Value.int Go.IntKind.i64 128)) a0 (Go.Value.int Go.IntKind.i64 128)) (fun v11 w =>
  LiftP Try.prog (binS Go.BinOp.add 3 (Go.Operand.const (Go.Value.int Go.IntKind.i64 128)) (Go.Operand.tmp 11) (Go.Value.int Go.IntKind.i64 128) v11) (fun v12 w =>
  LiftP Try.prog (convert 3 5 v12) (fun v13 w =>
  LiftP Try.prog (Instr.buildSlice 30 1 #[(0, v13)]) (fun v14 w =>
  LiftP Try.prog (binS Go.BinOp.quo 3 (Go.Operand.tmp 15) (Go.Operand.const (Go.Value.int Go.IntKind.i64 128)) a0 (Go.Value.int Go.IntKind.i64 128)) (fun v16 w =>
  CallP Try.prog 57 #[v16] (fun v17 w =>
  NextP Try.prog (builtin Go.Builtin.append #[30, 30] 30 #[false, false] #[v14, v17]) (fun v18 w =>
  R v18 w) w) w) w) w) w) w) w) w) w) w) w
theorem S57.calls (a0 : Value) (R : Value → World → Prop) (w : World) (h : S57 a0 R w) : Calls Try.prog 57 #[a0] w fun e w' => ∃ v, e = .returned v ∧ R v w' :=
  calls_of_tr (n := 19) (c := bodyOf Try.f57) (.two .leaf (.two (.two .leaf (.two (.two .leaf .leaf) .leaf)) (.two (.two .leaf (.two (.two .leaf .leaf) .leaf)) (.two .leaf .leaf)))) Try.func57 (by kernel_rfl) Try.ntmps57 (by kernel_rfl) (by kernel_rfl) [a0] (by kernel_rfl) (of_eq_ (by kernel_rfl) h)

/-- shelfmark/shelfmarkref01.Texts -/
def S58 (a0 : Value) (R : Value → World → Prop) (w : World) : Prop :=
  NextP Try.prog (builtin Go.Builtin.len #[37] 3 #[false] #[a0]) (fun v6 w =>
  CallP Try.prog 57 #[v6] (fun v7 w =>
  LoopP (fun J vs w =>   -- [3, 4]
    NextP Try.prog (builtin Go.Builtin.len #[37] 3 #[false] #[a0]) (fun v10 w =>
    LiftP Try.prog (binS Go.BinOp.lss 3 (Go.Operand.tmp 8) (Go.Operand.tmp 10) (vs.tail.headD undef) v10) (fun v11 w =>
    CondP v11 (fun w =>
      LiftP Try.prog (Instr.indexAt 37 a0 (vs.tail.headD undef)) (fun v17 w =>
    LiftP Try.prog (Instr.loadAt 9 v17) (fun v18 w =>
    CallP Try.prog 73 #[v18] (fun v19 w =>
    NextP Try.prog (builtin Go.Builtin.append #[30, 30] 30 #[false, false] #[(vs.headD undef), v19]) (fun v20 w =>
    LiftP Try.prog (binS Go.BinOp.add 3 (Go.Operand.tmp 12) (Go.Operand.const (Go.Value.int Go.IntKind.i64 1)) (vs.tail.headD undef) (Go.Value.int Go.IntKind.i64 1)) (fun v13 w =>
    J [v20, v13] w) w) w) w) w) w) (fun w =>
      R (vs.headD undef) w) w) w) w) [v7, (Go.Value.int Go.IntKind.i64 0)] w) w) w
theorem S58.calls (a0 : Value) (R : Value → World → Prop) (w : World) (h : S58 a0 R w) : Calls Try.prog 58 #[a0] w fun e w' => ∃ v, e = .returned v ∧ R v w' :=
  calls_of_tr (n := 22) (c := bodyOf Try.f58) (.two .leaf (.two .leaf (.two (.two .leaf (.one (.loop [3, 4] (.two (.two .leaf (.two .leaf .leaf)) (.two (.one .leaf) .leaf))))) (.two .leaf .leaf)))) Try.func58 (by kernel_rfl) Try.ntmps58 (by kernel_rfl) (by kernel_rfl) [a0] (by kernel_rfl) (of_eq_ (by kernel_rfl) h)

/-- shelfmark/shelfmarkref01.Text -/
def S73 (a0 : Value) (R : Value → World → Prop) (w : World) : Prop :=
  NextP Try.prog (builtin Go.Builtin.len #[9] 3 #[false] #[a0]) (fun v4 w =>
  CallP Try.prog 57 #[v4] (fun v5 w =>
  NextP Try.prog (builtin Go.Builtin.append #[30, 9] 30 #[false, false] #[v5, a0]) (fun v7 w =>
  R v7 w) w) w) w
theorem S73.calls (a0 : Value) (R : Value → World → Prop) (w : World) (h : S73 a0 R w) : Calls Try.prog 73 #[a0] w fun e w' => ∃ v, e = .returned v ∧ R v w' :=
  calls_of_tr (n := 8) (c := bodyOf Try.f73) (.two .leaf (.two .leaf .leaf)) Try.func73 (by kernel_rfl) Try.ntmps73 (by kernel_rfl) (by kernel_rfl) [a0] (by kernel_rfl) (of_eq_ (by kernel_rfl) h)

end Go.Proofs.Ythicbfopjakiiaa.E
