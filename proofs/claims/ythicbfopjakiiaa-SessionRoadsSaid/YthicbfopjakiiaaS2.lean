import Derived.Test.YthicbfopjakiiaaM1
import Derived.Test.YthicbfopjakiiaaProg
import Derived.KernelRfl
namespace Go.Proofs.Ythicbfopjakiiaa.E
open Go
set_option maxRecDepth 100000

/-- shelfmark/letter.Check -/
def S59 (a0 : Value) (R : Value → World → Prop) (w : World) : Prop :=
  LiftP Try.prog (Instr.box 58 a0) (fun v1 w =>
  LiftP Try.prog (Instr.loadAt 58 v1) (fun v6 w =>
  CallP Try.prog 74 #[v6] (fun v7 w =>
  LiftP Try.prog (Instr.extract v7 0) (fun v8 w =>
  LiftP Try.prog (Instr.extract v7 1) (fun v9 w =>
  R v9 w) w) w) w) w) w
theorem S59.calls (a0 : Value) (R : Value → World → Prop) (w : World) (h : S59 a0 R w) : Calls Try.prog 59 #[a0] w fun e w' => ∃ v, e = .returned v ∧ R v w' :=
  calls_of_tr (n := 11) (c := bodyOf Try.f59) (.two .leaf (.two .leaf (.two .leaf .leaf))) Try.func59 (by kernel_rfl) Try.ntmps59 (by kernel_rfl) (by kernel_rfl) [a0] (by kernel_rfl) (of_eq_ (by kernel_rfl) h)

/-- shelfmark/letter.Copy -/
def S61 (a0 : Value) (R : Value → World → Prop) (w : World) : Prop :=
  LiftP Try.prog (Instr.box 58 a0) (fun v1 w =>
  LiftP Try.prog (Instr.alloc 58 true (.tuple #[])) (fun v2 w =>
  LiftP Try.prog (Instr.fieldAt 58 v1 9) (fun v3 w =>
  LiftP Try.prog (Instr.loadAt 55 v3) (fun v4 w =>
  CallP Try.prog 76 #[v4] (fun v5 w =>
  CallP Try.prog 75 #[v5] (fun v6 w =>
  LiftP Try.prog (Instr.fieldAt 58 v1 9) (fun v7 w =>
  LiftU Try.prog (Instr.storeAt 55 v7 v6) (fun v_ w =>
  LiftP Try.prog (Instr.fieldAt 58 v1 10) (fun v8 w =>
  LiftP Try.prog (Instr.loadAt 56 v8) (fun v9 w =>
  CallP Try.prog 78 #[v9] (fun v10 w =>
  CallP Try.prog 77 #[v10] (fun v11 w =>
  LiftP Try.prog (Instr.fieldAt 58 v1 10) (fun v12 w =>
  LiftU Try.prog (Instr.storeAt 56 v12 v11) (fun v__1 w =>
  LiftP Try.prog (Instr.loadAt 58 v1) (fun v13 w =>
  LiftU Try.prog (Instr.storeAt 58 v2 v13) (fun v__2 w =>
  RetC Try.prog v2 58 (fun x => R x w) w) w) w) w) w) w) w) w) w) w) w) w) w) w) w) w) w
theorem S61.calls (a0 : Value) (R : Value → World → Prop) (w : World) (h : S61 a0 R w) : Calls Try.prog 61 #[a0] w fun e w' => ∃ v, e = .returned v ∧ R v w' :=
  calls_of_tr (n := 14) (c := bodyOf Try.f61) (.two .leaf (.two .leaf (.two .leaf (.two .leaf .leaf)))) Try.func61 (by kernel_rfl) Try.ntmps61 (by kernel_rfl) (by kernel_rfl) [a0] (by kernel_rfl) (of_eq_ (by kernel_rfl) h)

/-- shelfmark/letter.Pack -/
def S74 (a0 : Value) (R : Value → World → Prop) (w : World) : Prop :=
  LiftP Try.prog (Instr.box 58 a0) (fun v1 w =>
  LiftP Try.prog (Instr.fieldAt 58 v1 0) (fun v18 w =>
  LiftP Try.prog (Instr.loadAt 3 v18) (fun v19 w =>
  CallP Try.prog 85 #[v19, (Go.Value.int Go.IntKind.i64 255)] (fun v20 w =>
  GuardP v20 true (fun K w => LiftP Try.prog (Instr.fieldAt 58 v1 11) K w) (fun v22 w =>
  GuardP v20 true (fun K w => LiftP Try.prog (Instr.loadAt 25 v22) K w) (fun v23 w =>
  GuardP v20 true (fun K w => CallP Try.prog 85 #[v23, (Go.Value.int Go.IntKind.i64 1099511627776)] K w) (fun v24 w =>
  PickP v20 v24 (Go.Value.bool false) (fun v25 w =>
  CallP Try.prog 86 #[v1] (fun v26 w =>
  NextP Try.prog (builtin Go.Builtin.len #[103] 3 #[false] #[v26]) (fun v27 w =>
  LoopP (fun J vs w =>   -- [4, 28]
    LiftP Try.prog (binS Go.BinOp.lss 3 (Go.Operand.tmp 28) (Go.Operand.tmp 27) (vs.tail.headD undef) v27) (fun v29 w =>
    CondP v29 (fun w =>
      LiftP Try.prog (Instr.indexAt 103 v26 (vs.tail.headD undef)) (fun v30 w =>
    LiftP Try.prog (Instr.loadAt 102 v30) (fun v31 w =>
    GuardP (vs.headD undef) true (fun K w => K v31 w) (fun v34 w =>
    GuardP (vs.headD undef) true (fun K w => NextP Try.prog (nilChk v34) K w) (fun v35 w =>
    GuardP (vs.headD undef) true (fun K w => LiftP Try.prog (Instr.loadAt 3 v35) K w) (fun v36 w =>
    GuardP (vs.headD undef) true (fun K w => CallP Try.prog 85 #[v36, (Go.Value.int Go.IntKind.i64 1099511627776)] K w) (fun v37 w =>
    PickP (vs.headD undef) v37 (Go.Value.bool false) (fun v38 w =>
    LiftP Try.prog (binS Go.BinOp.add 3 (Go.Operand.tmp 28) (Go.Operand.const (Go.Value.int Go.IntKind.i64 1)) (vs.tail.headD undef) (Go.Value.int Go.IntKind.i64 1)) (fun v39 w =>
    J [v38, v39] w) w) w) w) w) w) w) w) w) (fun w =>
      LiftP Try.prog (Instr.fieldAt 58 v1 10) (fun v40 w =>
  LiftP Try.prog (Instr.loadAt 56 v40) (fun v41 w =>
  NextP Try.prog (builtin Go.Builtin.len #[56] 3 #[false] #[v41]) (fun v42 w =>
  LoopP (fun J_1 vs_1 w =>   -- [4, 43]
    LiftP Try.prog (binS Go.BinOp.lss 3 (Go.Operand.tmp 43) (Go.Operand.tmp 42) (vs_1.tail.headD undef) v42) (fun v44 w =>
    CondP v44 (fun w =>
      LiftP Try.prog (Instr.indexAt 56 v41 (vs_1.tail.headD undef)) (fun v45 w =>
    LiftP Try.prog (Instr.loadAt 68 v45) (fun v46 w =>
    LiftP Try.prog (Instr.alloc 68 true (.tuple #[])) (fun v8 w =>
    LiftU Try.prog (Instr.storeAt 68 v8 v46) (fun v_ w =>
    GuardP (vs_1.headD undef) true (fun K w => LiftP Try.prog (Instr.fieldAt 68 v8 1) K w) (fun v49 w =>
    GuardP (vs_1.headD undef) true (fun K w => LiftP Try.prog (Instr.loadAt 3 v49) K w) (fun v50 w =>
    GuardP (vs_1.headD undef) true (fun K w => CallP Try.prog 85 #[v50, (Go.Value.int Go.IntKind.i64 1099511627776)] K w) (fun v51 w =>
    PickP (vs_1.headD undef) v51 (Go.Value.bool false) (fun v52 w =>
    LiftP Try.prog (binS Go.BinOp.add 3 (Go.Operand.tmp 43) (Go.Operand.const (Go.Value.int Go.IntKind.i64 1)) (vs_1.tail.headD undef) (Go.Value.int Go.IntKind.i64 1)) (fun v53 w =>
    J_1 [v52, v53] w) w) w) w) w) w) w) w) w) w) (fun w =>
      LiftP Try.prog (Op.unary Go.UnOp.not (vs_1.headD undef)) (fun v56 w =>
  CondP v56 (fun w =>
    R (.tuple #[(Go.Value.string { data := #[] }), (Go.Value.int Go.IntKind.i64 1)]) w) (fun w =>
    JoinP (fun J_2 w =>
      LiftP Try.prog (Instr.fieldAt 58 v1 9) (fun v58 w =>
      LiftP Try.prog (Instr.loadAt 55 v58) (fun v59 w =>
      NextP Try.prog (builtin Go.Builtin.len #[55] 3 #[false] #[v59]) (fun v60 w =>
      LiftP Try.prog (binS Go.BinOp.gtr 3 (Go.Operand.tmp 60) (Go.Operand.const (Go.Value.int Go.IntKind.i64 256)) v60 (Go.Value.int Go.IntKind.i64 256)) (fun v61 w =>
      CondP v61 (fun w =>
        J_2 [v61] w) (fun w =>
        LiftP Try.prog (Instr.fieldAt 58 v1 10) (fun v62 w =>
        LiftP Try.prog (Instr.loadAt 56 v62) (fun v63 w =>
        NextP Try.prog (builtin Go.Builtin.len #[56] 3 #[false] #[v63]) (fun v64 w =>
        LiftP Try.prog (binS Go.BinOp.gtr 3 (Go.Operand.tmp 64) (Go.Operand.const (Go.Value.int Go.IntKind.i64 256)) v64 (Go.Value.int Go.IntKind.i64 256)) (fun v65 w =>
        CondP v65 (fun w =>
          J_2 [v65] w) (fun w =>
          LiftP Try.prog (Instr.loadAt 58 v1) (fun v66 w =>
          CallP Try.prog 87 #[v66] (fun v67 w =>
          LiftP Try.prog (binS Go.BinOp.gtr 3 (Go.Operand.tmp 67) (Go.Operand.const (Go.Value.int Go.IntKind.i64 65536)) v67 (Go.Value.int Go.IntKind.i64 65536)) (fun v68 w =>
          J_2 [v68] w) w) w) w) w) w) w) w) w) w) w) w) w) w) (fun vs_2 w =>   -- [57]
    CondP (vs_2.headD undef) (fun w =>
      R (.tuple #[(Go.Value.string { data := #[] }), (Go.Value.int Go.IntKind.i64 4)]) w) (fun w =>
      LiftP Try.prog (Instr.fieldAt 58 v1 0) (fun v69 w =>
  LiftP Try.prog (Instr.loadAt 3 v69) (fun v70 w =>
  CallP Try.prog 55 #[v70] (fun v71 w =>
  CallP Try.prog 86 #[v1] (fun v72 w =>
  NextP Try.prog (builtin Go.Builtin.len #[103] 3 #[false] #[v72]) (fun v73 w =>
  LoopP (fun J_3 vs_3 w =>   -- [9, 74]
    LiftP Try.prog (binS Go.BinOp.lss 3 (Go.Operand.tmp 74) (Go.Operand.tmp 73) (vs_3.tail.headD undef) v73) (fun v75 w =>
    CondP v75 (fun w =>
      LiftP Try.prog (Instr.indexAt 103 v72 (vs_3.tail.headD undef)) (fun v76 w =>
    LiftP Try.prog (Instr.loadAt 102 v76) (fun v77 w =>
    NextP Try.prog (nilChk v77) (fun v80 w =>
    LiftP Try.prog (Instr.loadAt 3 v80) (fun v81 w =>
    CallP Try.prog 55 #[v81] (fun v82 w =>
    NextP Try.prog (builtin Go.Builtin.append #[30, 30] 30 #[false, false] #[(vs_3.headD undef), v82]) (fun v83 w =>
    LiftP Try.prog (binS Go.BinOp.add 3 (Go.Operand.tmp 74) (Go.Operand.const (Go.Value.int Go.IntKind.i64 1)) (vs_3.tail.headD undef) (Go.Value.int Go.IntKind.i64 1)) (fun v84 w =>
    J_3 [v83, v84] w) w) w) w) w) w) w) w) (fun w =>
      DrawP (fun S w =>
  YieldP Try.prog S (Instr.fieldAt 58 v1 11) (fun v86 w =>
  YieldP Try.prog S (Instr.loadAt 25 v86) (fun v87 w =>
  YieldP Try.prog S (Instr.fieldAt 58 v1 12) (fun v89 w =>
  YieldP Try.prog S (Instr.loadAt 4 v89) (fun v90 w =>
  ActP S (fun K w => CallP Try.prog 55 #[v87] K w) (fun S v88 w =>
  ActP S (fun K w => CallP Try.prog 88 #[v90] K w) (fun S v91 w =>
  ActP S (fun K w => CallP Try.prog 55 #[v91] K w) (fun S v92 w =>
  ActP S (fun K w => LiftP Try.prog (Instr.buildSlice 133 2 #[(0, v88), (1, v92)]) K w) (fun S v93 w =>
  ActP S (fun K w => CallP Try.prog 54 #[v93] K w) (fun S v94 w =>
  ActP S (fun K w => NextP Try.prog (builtin Go.Builtin.append #[30, 30] 30 #[false, false] #[(vs_3.headD undef), v94]) K w) (fun S v95 w =>
  CallP Try.prog 89 #[v1] (fun v96 w =>
  NextP Try.prog (builtin Go.Builtin.len #[145] 3 #[false] #[v96]) (fun v97 w =>
  LoopP (fun J_4 vs_4 w =>   -- [9, 98]
    LiftP Try.prog (binS Go.BinOp.lss 3 (Go.Operand.tmp 98) (Go.Operand.tmp 97) (vs_4.tail.headD undef) v97) (fun v99 w =>
    CondP v99 (fun w =>
      LiftP Try.prog (Instr.indexAt 145 v96 (vs_4.tail.headD undef)) (fun v100 w =>
    LiftP Try.prog (Instr.loadAt 147 v100) (fun v101 w =>
    NextP Try.prog (nilChk v101) (fun v104 w =>
    LiftP Try.prog (Instr.loadAt 9 v104) (fun v105 w =>
    CallP Try.prog 72 #[v105] (fun v106 w =>
    NextP Try.prog (builtin Go.Builtin.append #[30, 30] 30 #[false, false] #[(vs_4.headD undef), v106]) (fun v107 w =>
    LiftP Try.prog (binS Go.BinOp.add 3 (Go.Operand.tmp 98) (Go.Operand.const (Go.Value.int Go.IntKind.i64 1)) (vs_4.tail.headD undef) (Go.Value.int Go.IntKind.i64 1)) (fun v108 w =>
    J_4 [v107, v108] w) w) w) w) w) w) w) w) (fun w =>
      LiftP Try.prog (Instr.fieldAt 58 v1 9) (fun v110 w =>
  LiftP Try.prog (Instr.loadAt 55 v110) (fun v111 w =>
  NextP Try.prog (builtin Go.Builtin.len #[55] 3 #[false] #[v111]) (fun v112 w =>
  CallP Try.prog 55 #[v112] (fun v113 w =>
  NextP Try.prog (builtin Go.Builtin.append #[30, 30] 30 #[false, false] #[(vs_4.headD undef), v113]) (fun v114 w =>
  LiftP Try.prog (Instr.fieldAt 58 v1 9) (fun v115 w =>
  LiftP Try.prog (Instr.loadAt 55 v115) (fun v116 w =>
  NextP Try.prog (builtin Go.Builtin.len #[55] 3 #[false] #[v116]) (fun v117 w =>
  LoopP (fun J_5 vs_5 w =>   -- [9, 118]
    LiftP Try.prog (binS Go.BinOp.lss 3 (Go.Operand.tmp 118) (Go.Operand.tmp 117) (vs_5.tail.headD undef) v117) (fun v119 w =>
    CondP v119 (fun w =>
      LiftP Try.prog (Instr.indexAt 55 v116 (vs_5.tail.headD undef)) (fun v120 w =>
    LiftP Try.prog (Instr.loadAt 64 v120) (fun v121 w =>
    LiftP Try.prog (Instr.alloc 64 true (.tuple #[])) (fun v15 w =>
    LiftU Try.prog (Instr.storeAt 64 v15 v121) (fun v__1 w =>
    DrawP (fun S w =>
    YieldP Try.prog S (Instr.fieldAt 64 v15 0) (fun v123 w =>
    YieldP Try.prog S (Instr.loadAt 9 v123) (fun v124 w =>
    YieldP Try.prog S (Instr.fieldAt 64 v15 1) (fun v126 w =>
    YieldP Try.prog S (Instr.loadAt 9 v126) (fun v127 w =>
    ActP S (fun K w => CallP Try.prog 72 #[v124] K w) (fun S v125 w =>
    ActP S (fun K w => CallP Try.prog 72 #[v127] K w) (fun S v128 w =>
    ActP S (fun K w => LiftP Try.prog (Instr.buildSlice 133 2 #[(0, v125), (1, v128)]) K w) (fun S v129 w =>
    ActP S (fun K w => CallP Try.prog 54 #[v129] K w) (fun S v130 w =>
    ActP S (fun K w => NextP Try.prog (builtin Go.Builtin.append #[30, 30] 30 #[false, false] #[(vs_5.headD undef), v130]) K w) (fun S v131 w =>
    LiftP Try.prog (binS Go.BinOp.add 3 (Go.Operand.tmp 118) (Go.Operand.const (Go.Value.int Go.IntKind.i64 1)) (vs_5.tail.headD undef) (Go.Value.int Go.IntKind.i64 1)) (fun v132 w =>
    J_5 [v131, v132] w) w) w) w) w) w) w) w) w) w) w) w) w) w) w) w) (fun w =>
      LiftP Try.prog (Instr.fieldAt 58 v1 10) (fun v134 w =>
  LiftP Try.prog (Instr.loadAt 56 v134) (fun v135 w =>
  NextP Try.prog (builtin Go.Builtin.len #[56] 3 #[false] #[v135]) (fun v136 w =>
  CallP Try.prog 55 #[v136] (fun v137 w =>
  NextP Try.prog (builtin Go.Builtin.append #[30, 30] 30 #[false, false] #[(vs_5.headD undef), v137]) (fun v138 w =>
  LiftP Try.prog (Instr.fieldAt 58 v1 10) (fun v139 w =>
  LiftP Try.prog (Instr.loadAt 56 v139) (fun v140 w =>
  NextP Try.prog (builtin Go.Builtin.len #[56] 3 #[false] #[v140]) (fun v141 w =>
  LoopP (fun J_6 vs_6 w =>   -- [9, 142]
    LiftP Try.prog (binS Go.BinOp.lss 3 (Go.Operand.tmp 142) (Go.Operand.tmp 141) (vs_6.tail.headD undef) v141) (fun v143 w =>
    CondP v143 (fun w =>
      LiftP Try.prog (Instr.indexAt 56 v140 (vs_6.tail.headD undef)) (fun v144 w =>
    LiftP Try.prog (Instr.loadAt 68 v144) (fun v145 w =>
    LiftP Try.prog (Instr.alloc 68 true (.tuple #[])) (fun v17 w =>
    LiftU Try.prog (Instr.storeAt 68 v17 v145) (fun v__2 w =>
    DrawP (fun S w =>
    YieldP Try.prog S (Instr.fieldAt 68 v17 0) (fun v147 w =>
    YieldP Try.prog S (Instr.loadAt 9 v147) (fun v148 w =>
    YieldP Try.prog S (Instr.fieldAt 68 v17 1) (fun v150 w =>
    YieldP Try.prog S (Instr.loadAt 3 v150) (fun v151 w =>
    YieldP Try.prog S (Instr.fieldAt 68 v17 2) (fun v153 w =>
    YieldP Try.prog S (Instr.loadAt 4 v153) (fun v154 w =>
    ActP S (fun K w => CallP Try.prog 72 #[v148] K w) (fun S v149 w =>
    ActP S (fun K w => CallP Try.prog 55 #[v151] K w) (fun S v152 w =>
    ActP S (fun K w => CallP Try.prog 88 #[v154] K w) (fun S v155 w =>
    ActP S (fun K w => CallP Try.prog 55 #[v155] K w) (fun S v156 w =>
    ActP S (fun K w => LiftP Try.prog (Instr.buildSlice 133 3 #[(0, v149), (1, v152), (2, v156)]) K w) (fun S v157 w =>
    ActP S (fun K w => CallP Try.prog 54 #[v157] K w) (fun S v158 w =>
    ActP S (fun K w => NextP Try.prog (builtin Go.Builtin.append #[30, 30] 30 #[false, false] #[(vs_6.headD undef), v158]) K w) (fun S v159 w =>
    LiftP Try.prog (binS Go.BinOp.add 3 (Go.Operand.tmp 142) (Go.Operand.const (Go.Value.int Go.IntKind.i64 1)) (vs_6.tail.headD undef) (Go.Value.int Go.IntKind.i64 1)) (fun v160 w =>
    J_6 [v159, v160] w) w) w) w) w) w) w) w) w) w) w) w) w) w) w) w) w) w) w) w) (fun w =>
      NextP Try.prog (builtin Go.Builtin.len #[30] 3 #[false] #[(vs_6.headD undef)]) (fun v162 w =>
  LiftP Try.prog (binS Go.BinOp.gtr 3 (Go.Operand.tmp 162) (Go.Operand.const (Go.Value.int Go.IntKind.i64 65536)) v162 (Go.Value.int Go.IntKind.i64 65536)) (fun v163 w =>
  CondP v163 (fun w =>
    R (.tuple #[(Go.Value.string { data := #[] }), (Go.Value.int Go.IntKind.i64 4)]) w) (fun w =>
    LiftP Try.prog (convert 30 9 (vs_6.headD undef)) (fun v165 w =>
  R (.tuple #[v165, (Go.Value.int Go.IntKind.i64 0)]) w) w) w) w) w) w) w) [v138, (Go.Value.int Go.IntKind.i64 0)] w) w) w) w) w) w) w) w) w) w) w) [v114, (Go.Value.int Go.IntKind.i64 0)] w) w) w) w) w) w) w) w) w) w) w) [v95, (Go.Value.int Go.IntKind.i64 0)] w) w) w) w) w) w) w) w) w) w) w) w) w) w) w) w) [v71, (Go.Value.int Go.IntKind.i64 0)] w) w) w) w) w) w) w) w) w) w) w) w) [(vs.headD undef), (Go.Value.int Go.IntKind.i64 0)] w) w) w) w) w) w) [v25, (Go.Value.int Go.IntKind.i64 0)] w) w) w) w) w) w) w) w) w) w) w
theorem S74.calls (a0 : Value) (R : Value → World → Prop) (w : World) (h : S74 a0 R w) : Calls Try.prog 74 #[a0] w fun e w' => ∃ v, e = .returned v ∧ R v w' :=
  calls_of_tr (n := 166) (c := bodyOf Try.f74) (.two .leaf (.two .leaf (.two (.two .leaf (.one (.loop [4, 28] (.two .leaf (.two (.two .leaf .leaf) (.two (.one (.two .leaf .leaf)) .leaf)))))) (.two (.two .leaf (.one (.loop [4, 43] (.two .leaf (.two (.two .leaf .leaf) (.two (.one (.two .leaf .leaf)) .leaf)))))) (.two (.one (.two .leaf (.two (.two .leaf .leaf) (.join [57] (.two .leaf (.two .leaf (.two .leaf (.two .leaf .leaf)))) (.two (.two .leaf .leaf) .leaf))))) (.two .leaf (.two (.two .leaf (.one (.loop [9, 74] (.two .leaf (.two (.two .leaf .leaf) (.two (.one (.two .leaf .leaf)) .leaf)))))) (.two (.draw [(true, 0), (true, 1), (true, 2), (true, 4), (true, 5), (false, 3), (false, 6), (false, 7), (false, 8), (false, 9), (false, 10), (true, 11)]) (.two (.two .leaf (.one (.loop [9, 98] (.two .leaf (.two (.two .leaf .leaf) (.two (.one (.two .leaf .leaf)) .leaf)))))) (.two .leaf (.two (.two .leaf (.one (.loop [9, 118] (.two .leaf (.two (.two .leaf .leaf) (.two (.one (.two .leaf (.draw [(true, 0), (true, 1), (true, 2), (true, 4), (true, 5), (false, 3), (false, 6), (false, 7), (false, 8), (false, 9), (true, 10)]))) .leaf)))))) (.two .leaf (.two (.two .leaf (.one (.loop [9, 142] (.two .leaf (.two (.two .leaf .leaf) (.two (.one (.two .leaf (.draw [(true, 0), (true, 1), (true, 2), (true, 4), (true, 5), (true, 7), (true, 8), (false, 3), (false, 6), (false, 9), (false, 10), (false, 11), (false, 12), (false, 13), (true, 14)]))) .leaf)))))) (.two (.two .leaf (.two (.two .leaf .leaf) .leaf)) (.two .leaf .leaf))))))))))))))) Try.func74 (by kernel_rfl) Try.ntmps74 (by kernel_rfl) (by kernel_rfl) [a0] (by kernel_rfl) (of_eq_ (by kernel_rfl) h)

/-- slices.Clip[[]shelfmark/api.Pair,shelfmark/api.Pair] -/
def S75 (a0 : Value) (R : Value → World → Prop) (w : World) : Prop :=
  NextP Try.prog (builtin Go.Builtin.len #[55] 3 #[false] #[a0]) (fun v5 w =>
  NextP Try.prog (builtin Go.Builtin.len #[55] 3 #[false] #[a0]) (fun v7 w =>
  LiftP Try.prog (Instr.sliceAt 55 a0 none (some v5) (some v7)) (fun v8 w =>
  R v8 w) w) w) w
theorem S75.calls (a0 : Value) (R : Value → World → Prop) (w : World) (h : S75 a0 R w) : Calls Try.prog 75 #[a0] w fun e w' => ∃ v, e = .returned v ∧ R v w' :=
  calls_of_tr (n := 9) (c := bodyOf Try.f75) (.two .leaf (.two .leaf .leaf)) Try.func75 (by kernel_rfl) Try.ntmps75 (by kernel_rfl) (by kernel_rfl) [a0] (by kernel_rfl) (of_eq_ (by kernel_rfl) h)

/-- slices.Clone[[]shelfmark/api.Pair,shelfmark/api.Pair] -/
def S76 (a0 : Value) (R : Value → World → Prop) (w : World) : Prop :=
  LiftP Try.prog (binS Go.BinOp.eql 55 (Go.Operand.tmp 3) (Go.Operand.const (Go.Value.slice none 0 0)) a0 (Go.Value.slice none 0 0)) (fun v4 w =>
  CondP v4 (fun w =>
    R (Go.Value.slice none 0 0) w) (fun w =>
    LiftP Try.prog (Instr.buildSlice 55 0 #[]) (fun v5 w =>
  NextP Try.prog (builtin Go.Builtin.append #[55, 55] 55 #[false, false] #[v5, a0]) (fun v7 w =>
  R v7 w) w) w) w) w
theorem S76.calls (a0 : Value) (R : Value → World → Prop) (w : World) (h : S76 a0 R w) : Calls Try.prog 76 #[a0] w fun e w' => ∃ v, e = .returned v ∧ R v w' :=
  calls_of_tr (n := 8) (c := bodyOf Try.f76) (.two .leaf (.two (.two .leaf (.two (.two .leaf .leaf) .leaf)) (.two .leaf .leaf))) Try.func76 (by kernel_rfl) Try.ntmps76 (by kernel_rfl) (by kernel_rfl) [a0] (by kernel_rfl) (of_eq_ (by kernel_rfl) h)

/-- slices.Clip[[]shelfmark/api.Intent,shelfmark/api.Intent] -/
def S77 (a0 : Value) (R : Value → World → Prop) (w : World) : Prop :=
  NextP Try.prog (builtin Go.Builtin.len #[56] 3 #[false] #[a0]) (fun v5 w =>
  NextP Try.prog (builtin Go.Builtin.len #[56] 3 #[false] #[a0]) (fun v7 w =>
  LiftP Try.prog (Instr.sliceAt 56 a0 none (some v5) (some v7)) (fun v8 w =>
  R v8 w) w) w) w
theorem S77.calls (a0 : Value) (R : Value → World → Prop) (w : World) (h : S77 a0 R w) : Calls Try.prog 77 #[a0] w fun e w' => ∃ v, e = .returned v ∧ R v w' :=
  calls_of_tr (n := 9) (c := bodyOf Try.f77) (.two .leaf (.two .leaf .leaf)) Try.func77 (by kernel_rfl) Try.ntmps77 (by kernel_rfl) (by kernel_rfl) [a0] (by kernel_rfl) (of_eq_ (by kernel_rfl) h)

/-- slices.Clone[[]shelfmark/api.Intent,shelfmark/api.Intent] -/
def S78 (a0 : Value) (R : Value → World → Prop) (w : World) : Prop :=
  LiftP Try.prog (binS Go.BinOp.eql 56 (Go.Operand.tmp 3) (Go.Operand.const (Go.Value.slice none 0 0)) a0 (Go.Value.slice none 0 0)) (fun v4 w =>
  CondP v4 (fun w =>
    R (Go.Value.slice none 0 0) w) (fun w =>
    LiftP Try.prog (Instr.buildSlice 56 0 #[]) (fun v5 w =>
  NextP Try.prog (builtin Go.Builtin.append #[56, 56] 56 #[false, false] #[v5, a0]) (fun v7 w =>
  R v7 w) w) w) w) w
theorem S78.calls (a0 : Value) (R : Value → World → Prop) (w : World) (h : S78 a0 R w) : Calls Try.prog 78 #[a0] w fun e w' => ∃ v, e = .returned v ∧ R v w' :=
  calls_of_tr (n := 8) (c := bodyOf Try.f78) (.two .leaf (.two (.two .leaf (.two (.two .leaf .leaf) .leaf)) (.two .leaf .leaf))) Try.func78 (by kernel_rfl) Try.ntmps78 (by kernel_rfl) (by kernel_rfl) [a0] (by kernel_rfl) (of_eq_ (by kernel_rfl) h)

/-- shelfmark/letter.within -/
def S85 (a0 a1 : Value) (R : Value → World → Prop) (w : World) : Prop :=
  LiftP Try.prog (binS Go.BinOp.geq 3 (Go.Operand.tmp 5) (Go.Operand.const (Go.Value.int Go.IntKind.i64 0)) a0 (Go.Value.int Go.IntKind.i64 0)) (fun v6 w =>
  GuardP v6 true (fun K w => K a0 w) (fun v8 w =>
  GuardP v6 true (fun K w => K a1 w) (fun v9 w =>
  GuardP v6 true (fun K w => LiftP Try.prog (binS Go.BinOp.leq 3 (Go.Operand.tmp 8) (Go.Operand.tmp 9) v8 v9) K w) (fun v10 w =>
  PickP v6 v10 (Go.Value.bool false) (fun v11 w =>
  R v11 w) w) w) w) w) w
theorem S85.calls (a0 a1 : Value) (R : Value → World → Prop) (w : World) (h : S85 a0 a1 R w) : Calls Try.prog 85 #[a0, a1] w fun e w' => ∃ v, e = .returned v ∧ R v w' :=
  calls_of_tr (n := 12) (c := bodyOf Try.f85) (.two .leaf (.two .leaf .leaf)) Try.func85 (by kernel_rfl) Try.ntmps85 (by kernel_rfl) (by kernel_rfl) [a0, a1] (by kernel_rfl) (of_eq_ (by kernel_rfl) h)

/-- shelfmark/letter.numbers -/
def S86 (a0 : Value) (R : Value → World → Prop) (w : World) : Prop :=
  DrawP (fun S w =>
  YieldN Try.prog S (nilChk a0) (fun v4 w =>
  YieldP Try.prog S (Instr.fieldAt 58 v4 1) (fun v5 w =>
  YieldN Try.prog S (nilChk a0) (fun v7 w =>
  YieldP Try.prog S (Instr.fieldAt 58 v7 2) (fun v8 w =>
  YieldN Try.prog S (nilChk a0) (fun v10 w =>
  YieldP Try.prog S (Instr.fieldAt 58 v10 3) (fun v11 w =>
  YieldN Try.prog S (nilChk a0) (fun v13 w =>
  YieldP Try.prog S (Instr.fieldAt 58 v13 4) (fun v14 w =>
  YieldN Try.prog S (nilChk a0) (fun v16 w =>
  YieldP Try.prog S (Instr.fieldAt 58 v16 5) (fun v17 w =>
  YieldN Try.prog S (nilChk a0) (fun v19 w =>
  YieldP Try.prog S (Instr.fieldAt 58 v19 6) (fun v20 w =>
  ActP S (fun K w => LiftP Try.prog (Instr.buildSlice 103 6 #[(0, v5), (1, v8), (2, v11), (3, v14), (4, v17), (5, v20)]) K w) (fun S v21 w =>
  R v21 w) w) w) w) w) w) w) w) w) w) w) w) w) w) w
theorem S86.calls (a0 : Value) (R : Value → World → Prop) (w : World) (h : S86 a0 R w) : Calls Try.prog 86 #[a0] w fun e w' => ∃ v, e = .returned v ∧ R v w' :=
  calls_of_tr (n := 22) (c := bodyOf Try.f86) (.two .leaf (.two (.draw [(true, 0), (true, 1), (true, 2), (true, 3), (true, 4), (true, 5), (true, 6), (true, 7), (true, 8), (true, 9), (true, 10), (true, 11), (true, 12), (true, 13), (true, 14), (true, 15), (true, 16), (true, 17), (false, 18), (true, 19)]) .leaf)) Try.func86 (by kernel_rfl) Try.ntmps86 (by kernel_rfl) (by kernel_rfl) [a0] (by kernel_rfl) (of_eq_ (by kernel_rfl) h)

/-- shelfmark/letter.bulk -/
def S87 (a0 : Value) (R : Value → World → Prop) (w : World) : Prop :=
  LiftP Try.prog (Instr.box 58 a0) (fun v1 w =>
  LiftP Try.prog (Instr.alloc 3 true (.tuple #[])) (fun v3 w =>
  LiftU Try.prog (Instr.storeAt 3 v3 (Go.Value.int Go.IntKind.i64 0)) (fun v_ w =>
  LiftP Try.prog (Instr.makeFunc (Go.Fn.func 93) #[] #[v3]) (fun v11 w =>
  CallP Try.prog 89 #[v1] (fun v12 w =>
  NextP Try.prog (builtin Go.Builtin.len #[145] 3 #[false] #[v12]) (fun v13 w =>
  LoopP (fun J vs w =>   -- [14]
    LiftP Try.prog (binS Go.BinOp.lss 3 (Go.Operand.tmp 14) (Go.Operand.tmp 13) (vs.headD undef) v13) (fun v15 w =>
    CondP v15 (fun w =>
      LiftP Try.prog (Instr.indexAt 145 v12 (vs.headD undef)) (fun v16 w =>
    LiftP Try.prog (Instr.loadAt 147 v16) (fun v17 w =>
    NextP Try.prog (nilChk v17) (fun v20 w =>
    LiftP Try.prog (Instr.loadAt 9 v20) (fun v21 w =>
    NextP Try.prog (callV v11 #[v21]) (fun v22 w =>
    LiftP Try.prog (binS Go.BinOp.add 3 (Go.Operand.tmp 14) (Go.Operand.const (Go.Value.int Go.IntKind.i64 1)) (vs.headD undef) (Go.Value.int Go.IntKind.i64 1)) (fun v23 w =>
    J [v23] w) w) w) w) w) w) w) (fun w =>
      LiftP Try.prog (Instr.fieldAt 58 v1 9) (fun v24 w =>
  LiftP Try.prog (Instr.loadAt 55 v24) (fun v25 w =>
  NextP Try.prog (builtin Go.Builtin.len #[55] 3 #[false] #[v25]) (fun v26 w =>
  LoopP (fun J_1 vs_1 w =>   -- [27]
    LiftP Try.prog (binS Go.BinOp.lss 3 (Go.Operand.tmp 27) (Go.Operand.tmp 26) (vs_1.headD undef) v26) (fun v28 w =>
    CondP v28 (fun w =>
      LiftP Try.prog (Instr.indexAt 55 v25 (vs_1.headD undef)) (fun v29 w =>
    LiftP Try.prog (Instr.loadAt 64 v29) (fun v30 w =>
    LiftP Try.prog (Instr.alloc 64 true (.tuple #[])) (fun v8 w =>
    LiftU Try.prog (Instr.storeAt 64 v8 v30) (fun v__1 w =>
    LiftP Try.prog (Instr.fieldAt 64 v8 0) (fun v32 w =>
    LiftP Try.prog (Instr.loadAt 9 v32) (fun v33 w =>
    NextP Try.prog (callV v11 #[v33]) (fun v34 w =>
    LiftP Try.prog (Instr.fieldAt 64 v8 1) (fun v36 w =>
    LiftP Try.prog (Instr.loadAt 9 v36) (fun v37 w =>
    NextP Try.prog (callV v11 #[v37]) (fun v38 w =>
    LiftP Try.prog (binS Go.BinOp.add 3 (Go.Operand.tmp 27) (Go.Operand.const (Go.Value.int Go.IntKind.i64 1)) (vs_1.headD undef) (Go.Value.int Go.IntKind.i64 1)) (fun v39 w =>
    J_1 [v39] w) w) w) w) w) w) w) w) w) w) w) w) (fun w =>
      LiftP Try.prog (Instr.fieldAt 58 v1 10) (fun v40 w =>
  LiftP Try.prog (Instr.loadAt 56 v40) (fun v41 w =>
  NextP Try.prog (builtin Go.Builtin.len #[56] 3 #[false] #[v41]) (fun v42 w =>
  LoopP (fun J_2 vs_2 w =>   -- [43]
    LiftP Try.prog (binS Go.BinOp.lss 3 (Go.Operand.tmp 43) (Go.Operand.tmp 42) (vs_2.headD undef) v42) (fun v44 w =>
    CondP v44 (fun w =>
      LiftP Try.prog (Instr.indexAt 56 v41 (vs_2.headD undef)) (fun v45 w =>
    LiftP Try.prog (Instr.loadAt 68 v45) (fun v46 w =>
    LiftP Try.prog (Instr.alloc 68 true (.tuple #[])) (fun v10 w =>
    LiftU Try.prog (Instr.storeAt 68 v10 v46) (fun v__2 w =>
    LiftP Try.prog (Instr.fieldAt 68 v10 0) (fun v48 w =>
    LiftP Try.prog (Instr.loadAt 9 v48) (fun v49 w =>
    NextP Try.prog (callV v11 #[v49]) (fun v50 w =>
    LiftP Try.prog (binS Go.BinOp.add 3 (Go.Operand.tmp 43) (Go.Operand.const (Go.Value.int Go.IntKind.i64 1)) (vs_2.headD undef) (Go.Value.int Go.IntKind.i64 1)) (fun v51 w =>
    J_2 [v51] w) w) w) w) w) w) w) w) w) (fun w =>
      LiftP Try.prog (Instr.loadAt 3 v3) (fun v52 w =>
  R v52 w) w) w) w) [(Go.Value.int Go.IntKind.i64 0)] w) w) w) w) w) w) [(Go.Value.int Go.IntKind.i64 0)] w) w) w) w) w) w) [(Go.Value.int Go.IntKind.i64 0)] w) w) w) w) w) w) w
theorem S87.calls (a0 : Value) (R : Value → World → Prop) (w : World) (h : S87 a0 R w) : Calls Try.prog 87 #[a0] w fun e w' => ∃ v, e = .returned v ∧ R v w' :=
  calls_of_tr (n := 53) (c := bodyOf Try.f87) (.two .leaf (.two .leaf (.two .leaf (.two (.two .leaf (.one (.loop [14] (.two .leaf (.two (.two .leaf .leaf) (.two (.one (.two .leaf .leaf)) .leaf)))))) (.two (.two .leaf (.one (.loop [27] (.two .leaf (.two (.two .leaf .leaf) (.two (.one (.two .leaf (.two .leaf .leaf))) .leaf)))))) (.two (.two .leaf (.one (.loop [43] (.two .leaf (.two (.two .leaf .leaf) (.two (.one (.two .leaf .leaf)) .leaf)))))) (.two .leaf .leaf))))))) Try.func87 (by kernel_rfl) Try.ntmps87 (by kernel_rfl) (by kernel_rfl) [a0] (by kernel_rfl) (of_eq_ (by kernel_rfl) h)

/-- shelfmark/letter.bit -/
def S88 (a0 : Value) (R : Value → World → Prop) (w : World) : Prop :=
  CondP a0 (fun w =>
    R (Go.Value.int Go.IntKind.i64 1) w) (fun w =>
    R (Go.Value.int Go.IntKind.i64 0) w) w
theorem S88.calls (a0 : Value) (R : Value → World → Prop) (w : World) (h : S88 a0 R w) : Calls Try.prog 88 #[a0] w fun e w' => ∃ v, e = .returned v ∧ R v w' :=
  calls_of_tr (n := 4) (c := bodyOf Try.f88) (.two .leaf (.two (.two .leaf (.two (.two .leaf .leaf) .leaf)) (.two .leaf .leaf))) Try.func88 (by kernel_rfl) Try.ntmps88 (by kernel_rfl) (by kernel_rfl) [a0] (by kernel_rfl) (of_eq_ (by kernel_rfl) h)

/-- shelfmark/letter.texts -/
def S89 (a0 : Value) (R : Value → World → Prop) (w : World) : Prop :=
  DrawP (fun S w =>
  YieldN Try.prog S (nilChk a0) (fun v4 w =>
  YieldP Try.prog S (Instr.fieldAt 58 v4 7) (fun v5 w =>
  YieldN Try.prog S (nilChk a0) (fun v7 w =>
  YieldP Try.prog S (Instr.fieldAt 58 v7 8) (fun v8 w =>
  YieldN Try.prog S (nilChk a0) (fun v10 w =>
  YieldP Try.prog S (Instr.fieldAt 58 v10 13) (fun v11 w =>
  ActP S (fun K w => LiftP Try.prog (Instr.buildSlice 145 3 #[(0, v5), (1, v8), (2, v11)]) K w) (fun S v12 w =>
  R v12 w) w) w) w) w) w) w) w) w
theorem S89.calls (a0 : Value) (R : Value → World → Prop) (w : World) (h : S89 a0 R w) : Calls Try.prog 89 #[a0] w fun e w' => ∃ v, e = .returned v ∧ R v w' :=
  calls_of_tr (n := 13) (c := bodyOf Try.f89) (.two .leaf (.two (.draw [(true, 0), (true, 1), (true, 2), (true, 3), (true, 4), (true, 5), (true, 6), (true, 7), (true, 8), (false, 9), (true, 10)]) .leaf)) Try.func89 (by kernel_rfl) Try.ntmps89 (by kernel_rfl) (by kernel_rfl) [a0] (by kernel_rfl) (of_eq_ (by kernel_rfl) h)

/-- shelfmark/letter.bulk$1 -/
def S93 (a0 a1 : Value) (R : Value → World → Prop) (w : World) : Prop :=
  LiftP Try.prog (Instr.loadAt 3 a1) (fun v3 w =>
  LiftP Try.prog (binS Go.BinOp.leq 3 (Go.Operand.tmp 3) (Go.Operand.const (Go.Value.int Go.IntKind.i64 65536)) v3 (Go.Value.int Go.IntKind.i64 65536)) (fun v4 w =>
  CondP v4 (fun w =>
    LiftP Try.prog (Instr.loadAt 3 a1) (fun v5 w =>
    NextP Try.prog (builtin Go.Builtin.len #[9] 3 #[false] #[a0]) (fun v7 w =>
    NextP Try.prog (builtin Go.Builtin.min #[3, 3] 3 #[false, true] #[v7, (Go.Value.int Go.IntKind.i64 65537)]) (fun v8 w =>
    LiftP Try.prog (binS Go.BinOp.add 3 (Go.Operand.tmp 5) (Go.Operand.tmp 8) v5 v8) (fun v9 w =>
    LiftU Try.prog (Instr.storeAt 3 a1 v9) (fun v_ w =>
    R (.tuple #[]) w) w) w) w) w) w) (fun w =>
    R (.tuple #[]) w) w) w) w
theorem S93.calls (a0 a1 : Value) (R : Value → World → Prop) (w : World) (h : S93 a0 a1 R w) : Calls Try.prog 93 #[a0, a1] w fun e w' => ∃ v, e = .returned v ∧ R v w' :=
  calls_of_tr (n := 10) (c := bodyOf Try.f93) (.two .leaf (.two .leaf .leaf)) Try.func93 (by kernel_rfl) Try.ntmps93 (by kernel_rfl) (by kernel_rfl) [a0, a1] (by kernel_rfl) (of_eq_ (by kernel_rfl) h)

end Go.Proofs.Ythicbfopjakiiaa.E
