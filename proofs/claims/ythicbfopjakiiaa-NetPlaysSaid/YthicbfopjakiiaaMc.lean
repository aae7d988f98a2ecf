import Derived.Test.YthicbfopjakiiaaM1
import Derived.Test.YthicbfopjakiiaaProg
import Derived.KernelRfl
import Derived.Test.YthicbfopjakiiaaM7
import Derived.Test.YthicbfopjakiiaaMb
namespace Go.Proofs.Ythicbfopjakiiaa.E
open Go
set_option maxRecDepth 100000

/-- shelfmark/letter.Check -/
def S59 (a0 : Value) (R : Value → World → Prop) (w : World) : Prop :=
  LiftP Try.prog (Instr.box 58 a0) (fun v1 w =>
  LiftP Try.prog (Instr.loadAt 58 v1) (fun v6 w =>
  CallP Try.prog 74 #[v6] (fun v7 w =>
  LiftP Try.prog (Instr.extract v7 0) (fun v8 w =>
  LiftP Try.prog (Instr.extract v7 1) (fun v9 w =>
  R v9 w) w) w) w) w) w
theorem S59.calls (a0 : Value) (R : Value → World → Prop) (w : World) (h : S59 a0 R w) : Calls Try.prog 59 #[a0] w fun e w' => ∃ v, e = .returned v ∧ R v w' :=
  calls_of_tr (n := 11) (c := bodyOf Try.f59) (.two .leaf (.two .leaf (.two .leaf .leaf))) Try.func59 (by kernel_rfl) Try.ntmps59 (by kernel_rfl) (by kernel_rfl) [a0] (by kernel_rfl) (of_eq_ (by kernel_rfl) h)

/-- shelfmark/letter.Copy -/
def S61 (a0 : Value) (R : Value → World → Prop) (w : World) : Prop :=
  LiftP Try.prog (Instr.box 58 a0) (fun v1 w =>
  LiftP Try.prog (Instr.alloc 58 true (.tuple #[])) (fun v2 w =>
  LiftP Try.prog (Instr.fieldAt 58 v1 9) (fun v3 w =>
  LiftP Try.prog (Instr.loadAt 55 v3) (fun v4 w =>
  CallP Try.prog 76 #[v4] (fun v5 w =>
  CallP Try.prog 75 #[v5] (fun v6 w =>
  LiftP Try.prog (Instr.fieldAt 58 v1 9) (fun v7 w =>
  LiftU Try.prog (Instr.storeAt 55 v7 v6) (fun v_ w =>
  LiftP Try.prog (Instr.fieldAt 58 v1 10) (fun v8 w =>
  LiftP Try.prog (Instr.loadAt 56 v8) (fun v9 w =>
  CallP Try.prog 78 #[v9] (fun v10 w =>
  CallP Try.prog 77 #[v10] (fun v11 w =>
  LiftP Try.prog (Instr.fieldAt 58 v1 10) (fun v12 w =>
  LiftU Try.prog (Instr.storeAt 56 v12 v11) (fun v__1 w =>
  LiftP Try.prog (Instr.loadAt 58 v1) (fun v13 w =>
  LiftU Try.prog (Instr.storeAt 58 v2 v13) (fun v__2 w =>
  RetC Try.prog v2 58 (fun x => R x w) w) w) w) w) w) w) w) w) w) w) w) w) w) w) w) w) w
theorem S61.calls (a0 : Value) (R : Value → World → Prop) (w : World) (h : S61 a0 R w) : Calls Try.prog 61 #[a0] w fun e w' => ∃ v, e = .returned v ∧ R v w' :=
  calls_of_tr (n := 14) (c := bodyOf Try.f61) (.two .leaf (.two .leaf (.two .leaf (.two .leaf .leaf)))) Try.func61 (by kernel_rfl) Try.ntmps61 (by kernel_rfl) (by kernel_rfl) [a0] (by kernel_rfl) (of_eq_ (by kernel_rfl) h)

/-- shelfmark/letter.Pack -/
def S74 (a0 : Value) (R : Value → World → Prop) (w : World) : Prop :=
  LiftP Try.prog (Instr.box 58 a0) (fun v1 w =>
  LiftP Try.prog (Instr.fieldAt 58 v1 0) (fun v18 w =>
  LiftP Try.prog (Instr.loadAt 3 v18) (fun v19 w =>
  CallP Try.prog 85 #[v19, (Go.Value.int Go.IntKind.i64 255)] (fun v20 w =>
  GuardP v20 true (fun K w => LiftP Try.prog (Instr.fieldAt 58 v1 11) K w) (fun v22 w =>
  GuardP v20 true (fun K w => LiftP Try.prog (Instr.loadAt 25 v22) K w) (fun v23 w =>
  GuardP v20 true (fun K w => CallP Try.prog 85 #[v23, (Go.Value.int Go.IntKind.i64 1099511627776)] K w) (fun v24 w =>
  PickP v20 v24 (Go.Value.bool false) (fun v25 w =>
  CallP Try.prog 86 #[v1] (fun v26 w =>
  NextP Try.prog (builtin Go.Builtin.len #[103] 3 #[false] #[v26]) (fun v27 w =>
  LoopP (fun J vs w =>   -- [4, 28]
    LiftP Try.prog (binS Go.BinOp.lss 3 (Go.Operand.tmp 28) (Go.Operand.tmp 27) (vs.tail.headD undef) v27) (fun v29 w =>
    CondP v29 (fun w =>
      LiftP Try.prog (Instr.indexAt 103 v26 (vs.tail.headD undef)) (fun v30 w =>
    LiftP Try.prog (Instr.loadAt 102 v30) (fun v31 w =>
    GuardP (vs.headD undef) true (fun K w => K v31 w) (fun v34 w =>
    GuardP (vs.headD undef) true (fun K w => NextP Try.prog (nilChk v34) K w) (fun v35 w =>
    GuardP (vs.headD undef) true (fun K w => LiftP Try.prog (Instr.loadAt 3 v35) K w) (fun v36 w =>
    GuardP (vs.headD undef) true (fun K w => CallP Try.prog 85 #[v36, (Go.Value.int Go.IntKind.i64 1099511627776)] K w) (fun v37 w =>
    PickP (vs.headD undef) v37 (Go.Value.bool false) (fun v38 w =>
    LiftP Try.prog (binS Go.BinOp.add 3 (Go.Operand.tmp 28) (Go.Operand.const (Go.Value.int Go.IntKind.i64 1)) (vs.tail.headD undef) (Go.Value.int Go.IntKind.i64 1)) (fun v39 w =>
    J [v38, v39] w) w) w) w) w) w) w) w) w) (fun w =>
      LiftP Try.prog (Instr.fieldAt 58 v1 10) (fun v40 w =>
  LiftP Try.prog (Instr.loadAt 56 v40) (fun v41 w =>
  NextP Try.prog (builtin Go.Builtin.len #[56] 3 #[false] #[v41]) (fun v42 w =>
  LoopP (fun J_1 vs_1 w =>   -- [4, 43]
    LiftP Try.prog (binS Go.BinOp.lss 3 (Go.Operand.tmp 43) (Go.Operand.tmp 42) (vs_1.tail.headD undef) v42) (fun v44 w =>
    CondP v44 (fun w =>
      LiftP Try.prog (Instr.indexAt 56 v41 (vs_1.tail.headD undef)) (fun v45 w =>
    LiftP Try.prog (Instr.loadAt 68 v45) (fun v46 w =>
    LiftP Try.prog (Instr.alloc 68 true (.tuple #[])) (fun v8 w =>
    LiftU Try.prog (Instr.storeAt 68 v8 v46) (fun v_ w =>
    GuardP (vs_1.headD undef) true (fun K w => LiftP Try.prog (Instr.fieldAt 68 v8 1) K w) (fun v49 w =>
    GuardP (vs_1.headD undef) true (fun K w => LiftP Try.prog (Instr.loadAt 3 v49) K w) (fun v50 w =>
    GuardP (vs_1.headD undef) true (fun K w => CallP Try.prog 85 #[v50, (Go.Value.int Go.IntKind.i64 1099511627776)] K w) (fun v51 w =>
    PickP (vs_1.headD undef) v51 (Go.Value.bool false) (fun v52 w =>
    LiftP Try.prog (binS Go.BinOp.add 3 (Go.Operand.tmp 43) (Go.Operand.const (Go.Value.int Go.IntKind.i64 1)) (vs_1.tail.headD undef) (Go.Value.int Go.IntKind.i64 1)) (fun v53 w =>
    J_1 [v52, v53] w) w) w) w) w) w) w) w) w) w) (fun w =>
      LiftP Try.prog (Op.unary Go.UnOp.not (vs_1.headD undef)) (fun v56 w =>
  CondP v56 (fun w =>
    R (.tuple #[(Go.Value.string { data := #[] }), (Go.Value.int Go.IntKind.i64 1)]) w) (fun w =>
    JoinP (fun J_2 w =>
      LiftP Try.prog (Instr.fieldAt 58 v1 9) (fun v58 w =>
      LiftP Try.prog (Instr.loadAt 55 v58) (fun v59 w =>
      NextP Try.prog (builtin Go.Builtin.len #[55] 3 #[false] #[v59]) (fun v60 w =>
      LiftP Try.prog (binS Go.BinOp.gtr 3 (Go.Operand.tmp 60) (Go.Operand.const (Go.Value.int Go.IntKind.i64 256)) v60 (Go.Value.int Go.IntKind.i64 256)) (fun v61 w =>
      CondP v61 (fun w =>
        J_2 [v61] w) (fun w =>
        LiftP Try.prog (Instr.fieldAt 58 v1 10) (fun v62 w =>
        LiftP Try.prog (Instr.loadAt 56 v62) (fun v63 w =>
        NextP Try.prog (builtin Go.Builtin.len #[56] 3 #[false] #[v63]) (fun v64 w =>
        LiftP Try.prog (binS Go.BinOp.gtr 3 (Go.Operand.tmp 64) (Go.Operand.const (Go.Value.int Go.IntKind.i64 256)) v64 (Go.Value.int Go.IntKind.i64 256)) (fun v65 w =>
        CondP v65 (fun w =>
          J_2 [v65] w) (fun w =>
          LiftP Try.prog (Instr.loadAt 58 v1) (fun v66 w =>
          CallP Try.prog 87 #[v66] (fun v67 w =>
          LiftP Try.prog (binS Go.BinOp.gtr 3 (Go.Operand.tmp 67) (Go.Operand.const (Go.Value.int Go.IntKind.i64 65536)) v67 (Go.Value.int Go.IntKind.i64 65536)) (fun v68 w =>
          J_2 [v68] w) w) w) w) w) w) w) w) w) w) w) w) w) w) (fun vs_2 w =>   -- [57]
    CondP (vs_2.headD undef) (fun w =>
      R (.tuple #[(Go.Value.string { data := #[] }), (Go.Value.int Go.IntKind.i64 4)]) w) (fun w =>
      LiftP Try.prog (Instr.fieldAt 58 v1 0) (fun v69 w =>
  LiftP Try.prog (Instr.loadAt 3 v69) (fun v70 w =>
  CallP Try.prog 55 #[v70] (fun v71 w =>
  CallP Try.prog 86 #[v1] (fun v72 w =>
  NextP Try.prog (builtin Go.Builtin.len #[103] 3 #[false] #[v72]) (fun v73 w =>
  LoopP (fun J_3 vs_3 w =>   -- [9, 74]
    LiftP Try.prog (binS Go.BinOp.lss 3 (Go.Operand.tmp 74) (Go.Operand.tmp 73) (vs_3.tail.headD undef) v73) (fun v75 w =>
    CondP v75 (fun w =>
      LiftP Try.prog (Instr.indexAt 103 v72 (vs_3.tail.headD undef)) (fun v76 w =>
    LiftP Try.prog (Instr.loadAt 102 v76) (fun v77 w =>
    NextP Try.prog (nilChk v77) (fun v80 w =>
    LiftP Try.prog (Instr.loadAt 3 v80) (fun v81 w =>
    CallP Try.prog 55 #[v81] (fun v82 w =>
    NextP Try.prog (builtin Go.Builtin.append #[30, 30] 30 #[false, false] #[(vs_3.headD undef), v82]) (fun v83 w =>
    LiftP Try.prog (binS Go.BinOp.add 3 (Go.Operand.tmp 74) (Go.Operand.const (Go.Value.int Go.IntKind.i64 1)) (vs_3.tail.headD undef) (Go.Value.int Go.IntKind.i64 1)) (fun v84 w =>
    J_3 [v83, v84] w) w) w) w) w) w) w) w) (fun w =>
      DrawP (fun S w =>
  YieldP Try.prog S (Instr.fieldAt 58 v1 11) (fun v86 w =>
  YieldP Try.prog S (Instr.loadAt 25 v86) (fun v87 w =>
  YieldP Try.prog S (Instr.fieldAt 58 v1 12) (fun v89 w =>
  YieldP Try.prog S (Instr.loadAt 4 v89) (fun v90 w =>
  ActP S (fun K w => CallP Try.prog 55 #[v87] K w) (fun S v88 w =>
  ActP S (fun K w => CallP Try.prog 88 #[v90] K w) (fun S v91 w =>
  ActP S (fun K w => CallP Try.prog 55 #[v91] K w) (fun S v92 w =>
  ActP S (fun K w => LiftP Try.prog (Instr.buildSlice 133 2 #[(0, v88), (1, v92)]) K w) (fun S v93 w =>
  ActP S (fun K w => CallP Try.prog 54 #[v93] K w) (fun S v94 w =>
  ActP S (fun K w => NextP Try.prog (builtin Go.Builtin.append #[30, 30] 30 #[false, false] #[(vs_3.headD undef), v94]) K w) (fun S v95 w =>
  CallP Try.prog 89 #[v1] (fun v96 w =>
  NextP Try.prog (builtin Go.Builtin.len #[145] 3 #[false] #[v96]) (fun v97 w =>
  LoopP (fun J_4 vs_4 w =>   -- [9, 98]
    LiftP Try.prog (binS Go.BinOp.lss 3 (Go.Operand.tmp 98) (Go.Operand.tmp 97) (vs_4.tail.headD undef) v97) (fun v99 w =>
    CondP v99 (fun w =>
      LiftP Try.prog (Instr.indexAt 145 v96 (vs_4.tail.headD undef)) (fun v100 w =>
    LiftP Try.prog (Instr.loadAt 147 v100) (fun v101 w =>
    NextP Try.prog (nilChk v101) (fun v104 w =>
    LiftP Try.prog (Instr.loadAt 9 v104) (fun v105 w =>
    CallP Try.prog 72 #[v105] (fun v106 w =>
    NextP Try.prog (builtin Go.Builtin.append #[30, 30] 30 #[false, false] #[(vs_4.headD undef), v106]) (fun v107 w =>
    LiftP Try.prog (binS Go.BinOp.add 3 (Go.Operand.tmp 98) (Go.Operand.const (Go.Value.int Go.IntKind.i64 1)) (vs_4.tail.headD undef) (Go.Value.int Go.IntKind.i64 1)) (fun v108 w =>
    J_4 [v107, v108] w) w) w) w) w) w) w) w) (fun w =>
      LiftP Try.prog (Instr.fieldAt 58 v1 9) (fun v110 w =>
  LiftP Try.prog (Instr.loadAt 55 v110) (fun v111 w =>
  NextP Try.prog (builtin Go.Builtin.len #[55] 3 #[false] #[v111]) (fun v112 w =>
  CallP Try.prog 55 #[v112] (fun v113 w =>
  NextP Try.prog (builtin Go.Builtin.append #[30, 30] 30 #[false, false] #[(vs_4.headD undef), v113]) (fun v114 w =>
  LiftP Try.prog (Instr.fieldAt 58 v1 9) (fun v115 w =>
  LiftP Try.prog (Instr.loadAt 55 v115) (fun v116 w =>
  NextP Try.prog (builtin Go.Builtin.len #[55] 3 #[false] #[v116]) (fun v117 w =>
  LoopP (fun J_5 vs_5 w =>   -- [9, 118]
    LiftP Try.prog (binS Go.BinOp.lss 3 (Go.Operand.tmp 118) (Go.Operand.tmp 117) (vs_5.tail.headD undef) v117) (fun v119 w =>
    CondP v119 (fun w =>
      LiftP Try.prog (Instr.indexAt 55 v116 (vs_5.tail.headD undef)) (fun v120 w =>
    LiftP Try.prog (Instr.loadAt 64 v120) (fun v121 w =>
    LiftP Try.prog (Instr.alloc 64 true (.tuple #[])) (fun v15 w =>
    LiftU Try.prog (Instr.storeAt 64 v15 v121) (fun v__1 w =>
    DrawP (fun S w =>
    YieldP Try.prog S (Instr.fieldAt 64 v15 0) (fun v123 w =>
    YieldP Try.prog S (Instr.loadAt 9 v123) (fun v124 w =>
    YieldP Try.prog S (Instr.fieldAt 64 v15 1) (fun v126 w =>
    YieldP Try.prog S (Instr.loadAt 9 v126) (fun v127 w =>
    ActP S (fun K w => CallP Try.prog 72 #[v124] K w) (fun S v125 w =>
    ActP S (fun K w => CallP Try.prog 72 #[v127] K w) (fun S v128 w =>
    ActP S (fun K w => LiftP Try.prog (Instr.buildSlice 133 2 #[(0, v125), (1, v128)]) K w) (fun S v129 w =>
    ActP S (fun K w => CallP Try.prog 54 #[v129] K w) (fun S v130 w =>
    ActP S (fun K w => NextP Try.prog (builtin Go.Builtin.append #[30, 30] 30 #[false, false] #[(vs_5.headD undef), v130]) K w) (fun S v131 w =>
    LiftP Try.prog (binS Go.BinOp.add 3 (Go.Operand.tmp 118) (Go.Operand.const (Go.Value.int Go.IntKind.i64 1)) (vs_5.tail.headD undef) (Go.Value.int Go.IntKind.i64 1)) (fun v132 w =>
    J_5 [v131, v132] w) w) w) w) w) w) w) w) w) w) w) w) w) w) w) w) (fun w =>
      LiftP Try.prog (Instr.fieldAt 58 v1 10) (fun v134 w =>
  LiftP Try.prog (Instr.loadAt 56 v134) (fun v135 w =>
  NextP Try.prog (builtin Go.Builtin.len #[56] 3 #[false] #[v135]) (fun v136 w =>
  CallP Try.prog 55 #[v136] (fun v137 w =>
  NextP Try.prog (builtin Go.Builtin.append #[30, 30] 30 #[false, false] #[(vs_5.headD undef), v137]) (fun v138 w =>
  LiftP Try.prog (Instr.fieldAt 58 v1 10) (fun v139 w =>
  LiftP Try.prog (Instr.loadAt 56 v139) (fun v140 w =>
  NextP Try.prog (builtin Go.Builtin.len #[56] 3 #[false] #[v140]) (fun v141 w =>
  LoopP (fun J_6 vs_6 w =>   -- [9, 142]
    LiftP Try.prog (binS Go.BinOp.lss 3 (Go.Operand.tmp 142) (Go.Operand.tmp 141) (vs_6.tail.headD undef) v141) (fun v143 w =>
    CondP v143 (fun w =>
      LiftP Try.prog (Instr.indexAt 56 v140 (vs_6.tail.headD undef)) (fun v144 w =>
    LiftP Try.prog (Instr.loadAt 68 v144) (fun v145 w =>
    LiftP Try.prog (Instr.alloc 68 true (.tuple #[])) (fun v17 w =>
    LiftU Try.prog (Instr.storeAt 68 v17 v145) (fun v__2 w =>
    DrawP (fun S w =>
    YieldP Try.prog S (Instr.fieldAt 68 v17 0) (fun v147 w =>
    YieldP Try.prog S (Instr.loadAt 9 v147) (fun v148 w =>
    YieldP Try.prog S (Instr.fieldAt 68 v17 1) (fun v150 w =>
    YieldP Try.prog S (Instr.loadAt 3 v150) (fun v151 w =>
    YieldP Try.prog S (Instr.fieldAt 68 v17 2) (fun v153 w =>
    YieldP Try.prog S (Instr.loadAt 4 v153) (fun v154 w =>
    ActP S (fun K w => CallP Try.prog 72 #[v148] K w) (fun S v149 w =>
    ActP S (fun K w => CallP Try.prog 55 #[v151] K w) (fun S v152 w =>
    ActP S (fun K w => CallP Try.prog 88 #[v154] K w) (fun S v155 w =>
    ActP S (fun K w => CallP Try.prog 55 #[v155] K w) (fun S v156 w =>
    ActP S (fun K w => LiftP Try.prog (Instr.buildSlice 133 3 #[(0, v149), (1, v152), (2, v156)]) K w) (fun S v157 w =>
    ActP S (fun K w => CallP Try.prog 54 #[v157] K w) (fun S v158 w =>
    ActP S (fun K w => NextP Try.prog (builtin Go.Builtin.append #[30, 30] 30 #[false, false] #[(vs_6.headD undef), v158]) K w) (fun S v159 w =>
    LiftP Try.prog (binS Go.BinOp.add 3 (Go.Operand.tmp 142) (Go.Operand.const (Go.Value.int Go.IntKind.i64 1)) (vs_6.tail.headD undef) (Go.Value.int Go.IntKind.i64 1)) (fun v160 w =>
    J_6 [v159, v160] w) w) w) w) w) w) w) w) w) w) w) w) w) w) w) w) w) w) w) w) (fun w =>
      NextP Try.prog (builtin Go.Builtin.len #[30] 3 #[false] #[(vs_6.headD undef)]) (fun v162 w =>
  LiftP Try.prog (binS Go.BinOp.gtr 3 (Go.Operand.tmp 162) (Go.Operand.const (Go.Value.int Go.IntKind.i64 65536)) v162 (Go.Value.int Go.IntKind.i64 65536)) (fun v163 w =>
  CondP v163 (fun w =>
    R (.tuple #[(Go.Value.string { data := #[] }), (Go.Value.int Go.IntKind.i64 4)]) w) (fun w =>
    LiftP Try.prog (convert 30 9 (vs_6.headD undef)) (fun v165 w =>
  R (.tuple #[v165, (Go.Value.int Go.IntKind.i64 0)]) w) w) w) w) w) w) w) [v138, (Go.Value.int Go.IntKind.i64 0)] w) w) w) w) w) w) w) w) w) w) w) [v114, (Go.Value.int Go.IntKind.i64 0)] w) w) w) w) w) w) w) w) w) w) w) [v95, (Go.Value.int Go.IntKind.i64 0)] w) w) w) w) w) w) w) w) w) w) w) w) w) w) w) w) [v71, (Go.Value.int Go.IntKind.i64 0)] w) w) w) w) w) w) w) w) w) w) w) w) [(vs.headD undef), (Go.Value.int Go.IntKind.i64 0)] w) w) w) w) w) w) [v25, (Go.Value.int Go.IntKind.i64 0)] w) w) w) w) w) w) w) w) w) w) w
theorem S74.calls (a0 : Value) (R : Value → World → Prop) (w : World) (h : S74 a0 R w) : Calls Try.prog 74 #[a0] w fun e w' => ∃ v, e = .returned v ∧ R v w' :=
  calls_of_tr (n := 166) (c := bodyOf Try.f74) (.two .leaf (.two .leaf (.two (.two .leaf (.one (.loop [4, 28] (.two .leaf (.two (.two .leaf .leaf) (.two (.one (.two .leaf .leaf)) .leaf)))))) (.two (.two .leaf (.one (.loop [4, 43] (.two .leaf (.two (.two .leaf .leaf) (.two (.one (.two .leaf .leaf)) .leaf)))))) (.two (.one (.two .leaf (.two (.two .leaf .leaf) (.join [57] (.two .leaf (.two .leaf (.two .leaf (.two .leaf .leaf)))) (.two (.two .leaf .leaf) .leaf))))) (.two .leaf (.two (.two .leaf (.one (.loop [9, 74] (.two .leaf (.two (.two .leaf .leaf) (.two (.one (.two .leaf .leaf)) .leaf)))))) (.two (.draw [(true, 0), (true, 1), (true, 2), (true, 4), (true, 5), (false, 3), (false, 6), (false, 7), (false, 8), (false, 9), (false, 10), (true, 11)]) (.two (.two .leaf (.one (.loop [9, 98] (.two .leaf (.two (.two .leaf .leaf) (.two (.one (.two .leaf .leaf)) .leaf)))))) (.two .leaf (.two (.two .leaf (.one (.loop [9, 118] (.two .leaf (.two (.two .leaf .leaf) (.two (.one (.two .leaf (.draw [(true, 0), (true, 1), (true, 2), (true, 4), (true, 5), (false, 3), (false, 6), (false, 7), (false, 8), (false, 9), (true, 10)]))) .leaf)))))) (.two .leaf (.two (.two .leaf (.one (.loop [9, 142] (.two .leaf (.two (.two .leaf .leaf) (.two (.one (.two .leaf (.draw [(true, 0), (true, 1), (true, 2), (true, 4), (true, 5), (true, 7), (true, 8), (false, 3), (false, 6), (false, 9), (false, 10), (false, 11), (false, 12), (false, 13), (true, 14)]))) .leaf)))))) (.two (.two .leaf (.two (.two .leaf .leaf) .leaf)) (.two .leaf .leaf))))))))))))))) Try.func74 (by kernel_rfl) Try.ntmps74 (by kernel_rfl) (by kernel_rfl) [a0] (by kernel_rfl) (of_eq_ (by kernel_rfl) h)

/-- slices.Clip[[]shelfmark/api.Pair,shelfmark/api.Pair] -/
def S75 (a0 : Value) (R : Value → World → Prop) (w : World) : Prop :=
  NextP Try.prog (builtin Go.Builtin.len #[55] 3 #[false] #[a0]) (fun v5 w =>
  NextP Try.prog (builtin Go.Builtin.len #[55] 3 #[false] #[a0]) (fun v7 w =>
  LiftP Try.prog (Instr.sliceAt 55 a0 none (some v5) (some v7)) (fun v8 w =>
  R v8 w) w) w) w
theorem S75.calls (a0 : Value) (R : Value → World → Prop) (w : World) (h : S75 a0 R w) : Calls Try.prog 75 #[a0] w fun e w' => ∃ v, e = .returned v ∧ R v w' :=
  calls_of_tr (n := 9) (c := bodyOf Try.f75) (.two .leaf (.two .leaf .leaf)) Try.func75 (by kernel_rfl) Try.ntmps75 (by kernel_rfl) (by kernel_rfl) [a0] (by kernel_rfl) (of_eq_ (by kernel_rfl) h)

/-- slices.Clone[[]shelfmark/api.Pair,shelfmark/api.Pair] -/
def S76 (a0 : Value) (R : Value → World → Prop) (w : World) : Prop :=
  LiftP Try.prog (binS Go.BinOp.eql 55 (Go.Operand.tmp 3) (Go.Operand.const (Go.Value.slice none 0 0)) a0 (Go.Value.slice none 0 0)) (fun v4 w =>
  CondP v4 (fun w =>
    R (Go.Value.slice none 0 0) w) (fun w =>
    LiftP Try.prog (Instr.buildSlice 55 0 #[]) (fun v5 w =>
  NextP Try.prog (builtin Go.Builtin.append #[55, 55] 55 #[false, false] #[v5, a0]) (fun v7 w =>
  R v7 w) w) w) w) w
theorem S76.calls (a0 : Value) (R : Value → World → Prop) (w : World) (h : S76 a0 R w) : Calls Try.prog 76 #[a0] w fun e w' => ∃ v, e = .returned v ∧ R v w' :=
  calls_of_tr (n := 8) (c := bodyOf Try.f76) (.two .leaf (.two (.two .leaf (.two (.two .leaf .leaf) .leaf)) (.two .leaf .leaf))) Try.func76 (by kernel_rfl) Try.ntmps76 (by kernel_rfl) (by kernel_rfl) [a0] (by kernel_rfl) (of_eq_ (by kernel_rfl) h)

/-- slices.Clip[[]shelfmark/api.Intent,shelfmark/api.Intent] -/
def S77 (a0 : Value) (R : Value → World → Prop) (w : World) : Prop :=
  NextP Try.prog (builtin Go.Builtin.len #[56] 3 #[false] #[a0]) (fun v5 w =>
  NextP Try.prog (builtin Go.Builtin.len #[56] 3 #[false] #[a0]) (fun v7 w =>
  LiftP Try.prog (Instr.sliceAt 56 a0 none (some v5) (some v7)) (fun v8 w =>
  R v8 w) w) w) w
theorem S77.calls (a0 : Value) (R : Value → World → Prop) (w : World) (h : S77 a0 R w) : Calls Try.prog 77 #[a0] w fun e w' => ∃ v, e = .returned v ∧ R v w' :=
  calls_of_tr (n := 9) (c := bodyOf Try.f77) (.two .leaf (.two .leaf .leaf)) Try.func77 (by kernel_rfl) Try.ntmps77 (by kernel_rfl) (by kernel_rfl) [a0] (by kernel_rfl) (of_eq_ (by kernel_rfl) h)

/-- slices.Clone[[]shelfmark/api.Intent,shelfmark/api.Intent] -/
def S78 (a0 : Value) (R : Value → World → Prop) (w : World) : Prop :=
  LiftP Try.prog (binS Go.BinOp.eql 56 (Go.Operand.tmp 3) (Go.Operand.const (Go.Value.slice none 0 0)) a0 (Go.Value.slice none 0 0)) (fun v4 w =>
  CondP v4 (fun w =>
    R (Go.Value.slice none 0 0) w) (fun w =>
    LiftP Try.prog (Instr.buildSlice 56 0 #[]) (fun v5 w =>
  NextP Try.prog (builtin Go.Builtin.append #[56, 56] 56 #[false, false] #[v5, a0]) (fun v7 w =>
  R v7 w) w) w) w) w
theorem S78.calls (a0 : Value) (R : Value → World → Prop) (w : World) (h : S78 a0 R w) : Calls Try.prog 78 #[a0] w fun e w' => ∃ v, e = .returned v ∧ R v w' :=
  calls_of_tr (n := 8) (c := bodyOf Try.f78) (.two .leaf (.two (.two .leaf (.two (.two .leaf .leaf) .leaf)) (.two .leaf .leaf))) Try.func78 (by kernel_rfl) Try.ntmps78 (by kernel_rfl) (by kernel_rfl) [a0] (by kernel_rfl) (of_eq_ (by kernel_rfl) h)

/-- shelfmark/letter.within -/
def S85 (a0 a1 : Value) (R : Value → World → Prop) (w : World) : Prop :=
  LiftP Try.prog (binS Go.BinOp.geq 3 (Go.Operand.tmp 5) (Go.Operand.const (Go.Value.int Go.IntKind.i64 0)) a0 (Go.Value.int Go.IntKind.i64 0)) (fun v6 w =>
  GuardP v6 true (fun K w => K a0 w) (fun v8 w =>
  GuardP v6 true (fun K w => K a1 w) (fun v9 w =>
  GuardP v6 true (fun K w => LiftP Try.prog (binS Go.BinOp.leq 3 (Go.Operand.tmp 8) (Go.Operand.tmp 9) v8 v9) K w) (fun v10 w =>
  PickP v6 v10 (Go.Value.bool false) (fun v11 w =>
  R v11 w) w) w) w) w) w
theorem S85.calls (a0 a1 : Value) (R : Value → World → Prop) (w : World) (h : S85 a0 a1 R w) : Calls Try.prog 85 #[a0, a1] w fun e w' => ∃ v, e = .returned v ∧ R v w' :=
  calls_of_tr (n := 12) (c := bodyOf Try.f85) (.two .leaf (.two .leaf .leaf)) Try.func85 (by kernel_rfl) Try.ntmps85 (by kernel_rfl) (by kernel_rfl) [a0, a1] (by kernel_rfl) (of_eq_ (by kernel_rfl) h)

/-- shelfmark/letter.numbers -/
def S86 (a0 : Value) (R : Value → World → Prop) (w : World) : Prop :=
  DrawP (fun S w =>
  YieldN Try.prog S (nilChk a0) (fun v4 w =>
  YieldP Try.prog S (Instr.fieldAt 58 v4 1) (fun v5 w =>
  YieldN Try.prog S (nilChk a0) (fun v7 w =>
  YieldP Try.prog S (Instr.fieldAt 58 v7 2) (fun v8 w =>
  YieldN Try.prog S (nilChk a0) (fun v10 w =>
  YieldP Try.prog S (Instr.fieldAt 58 v10 3) (fun v11 w =>
  YieldN Try.prog S (nilChk a0) (fun v13 w =>
  YieldP Try.prog S (Instr.fieldAt 58 v13 4) (fun v14 w =>
  YieldN Try.prog S (nilChk a0) (fun v16 w =>
  YieldP Try.prog S (Instr.fieldAt 58 v16 5) (fun v17 w =>
  YieldN Try.prog S (nilChk a0) (fun v19 w =>
  YieldP Try.prog S (Instr.fieldAt 58 v19 6) (fun v20 w =>
  ActP S (fun K w => LiftP Try.prog (Instr.buildSlice 103 6 #[(0, v5), (1, v8), (2, v11), (3, v14), (4, v17), (5, v20)]) K w) (fun S v21 w =>
  R v21 w) w) w) w) w) w) w) w) w) w) w) w) w) w) w
theorem S86.calls (a0 : Value) (R : Value → World → Prop) (w : World) (h : S86 a0 R w) : Calls Try.prog 86 #[a0] w fun e w' => ∃ v, e = .returned v ∧ R v w' :=
  calls_of_tr (n := 22) (c := bodyOf Try.f86) (.two .leaf (.two (.draw [(true, 0), (true, 1), (true, 2), (true, 3), (true, 4), (true, 5), (true, 6), (true, 7), (true, 8), (true, 9), (true, 10), (true, 11), (true, 12), (true, 13), (true, 14), (true, 15), (true, 16), (true, 17), (false, 18), (true, 19)]) .leaf)) Try.func86 (by kernel_rfl) Try.ntmps86 (by kernel_rfl) (by kernel_rfl) [a0] (by kernel_rfl) (of_eq_ (by kernel_rfl) h)

/-- shelfmark/letter.bulk -/
def S87 (a0 : Value) (R : Value → World → Prop) (w : World) : Prop :=
  LiftP Try.prog (Instr.box 58 a0) (fun v1 w =>
  LiftP Try.prog (Instr.alloc 3 true (.tuple #[])) (fun v3 w =>
  LiftU Try.prog (Instr.storeAt 3 v3 (Go.Value.int Go.IntKind.i64 0)) (fun v_ w =>
  LiftP Try.prog (Instr.makeFunc (Go.Fn.func 93) #[] #[v3]) (fun v11 w =>
  CallP Try.prog 89 #[v1] (fun v12 w =>
  NextP Try.prog (builtin Go.Builtin.len #[145] 3 #[false] #[v12]) (fun v13 w =>
  LoopP (fun J vs w =>   -- [14]
    LiftP Try.prog (binS Go.BinOp.lss 3 (Go.Operand.tmp 14) (Go.Operand.tmp 13) (vs.headD undef) v13) (fun v15 w =>
    CondP v15 (fun w =>
      LiftP Try.prog (Instr.indexAt 145 v12 (vs.headD undef)) (fun v16 w =>
    LiftP Try.prog (Instr.loadAt 147 v16) (fun v17 w =>
    NextP Try.prog (nilChk v17) (fun v20 w =>
    LiftP Try.prog (Instr.loadAt 9 v20) (fun v21 w =>
    NextP Try.prog (callV v11 #[v21]) (fun v22 w =>
    LiftP Try.prog (binS Go.BinOp.add 3 (Go.Operand.tmp 14) (Go.Operand.const (Go.Value.int Go.IntKind.i64 1)) (vs.headD undef) (Go.Value.int Go.IntKind.i64 1)) (fun v23 w =>
    J [v23] w) w) w) w) w) w) w) (fun w =>
      LiftP Try.prog (Instr.fieldAt 58 v1 9) (fun v24 w =>
  LiftP Try.prog (Instr.loadAt 55 v24) (fun v25 w =>
  NextP Try.prog (builtin Go.Builtin.len #[55] 3 #[false] #[v25]) (fun v26 w =>
  LoopP (fun J_1 vs_1 w =>   -- [27]
    LiftP Try.prog (binS Go.BinOp.lss 3 (Go.Operand.tmp 27) (Go.Operand.tmp 26) (vs_1.headD undef) v26) (fun v28 w =>
    CondP v28 (fun w =>
      LiftP Try.prog (Instr.indexAt 55 v25 (vs_1.headD undef)) (fun v29 w =>
    LiftP Try.prog (Instr.loadAt 64 v29) (fun v30 w =>
    LiftP Try.prog (Instr.alloc 64 true (.tuple #[])) (fun v8 w =>
    LiftU Try.prog (Instr.storeAt 64 v8 v30) (fun v__1 w =>
    LiftP Try.prog (Instr.fieldAt 64 v8 0) (fun v32 w =>
    LiftP Try.prog (Instr.loadAt 9 v32) (fun v33 w =>
    NextP Try.prog (callV v11 #[v33]) (fun v34 w =>
    LiftP Try.prog (Instr.fieldAt 64 v8 1) (fun v36 w =>
    LiftP Try.prog (Instr.loadAt 9 v36) (fun v37 w =>
    NextP Try.prog (callV v11 #[v37]) (fun v38 w =>
    LiftP Try.prog (binS Go.BinOp.add 3 (Go.Operand.tmp 27) (Go.Operand.const (Go.Value.int Go.IntKind.i64 1)) (vs_1.headD undef) (Go.Value.int Go.IntKind.i64 1)) (fun v39 w =>
    J_1 [v39] w) w) w) w) w) w) w) w) w) w) w) w) (fun w =>
      LiftP Try.prog (Instr.fieldAt 58 v1 10) (fun v40 w =>
  LiftP Try.prog (Instr.loadAt 56 v40) (fun v41 w =>
  NextP Try.prog (builtin Go.Builtin.len #[56] 3 #[false] #[v41]) (fun v42 w =>
  LoopP (fun J_2 vs_2 w =>   -- [43]
    LiftP Try.prog (binS Go.BinOp.lss 3 (Go.Operand.tmp 43) (Go.Operand.tmp 42) (vs_2.headD undef) v42) (fun v44 w =>
    CondP v44 (fun w =>
      LiftP Try.prog (Instr.indexAt 56 v41 (vs_2.headD undef)) (fun v45 w =>
    LiftP Try.prog (Instr.loadAt 68 v45) (fun v46 w =>
    LiftP Try.prog (Instr.alloc 68 true (.tuple #[])) (fun v10 w =>
    LiftU Try.prog (Instr.storeAt 68 v10 v46) (fun v__2 w =>
    LiftP Try.prog (Instr.fieldAt 68 v10 0) (fun v48 w =>
    LiftP Try.prog (Instr.loadAt 9 v48) (fun v49 w =>
    NextP Try.prog (callV v11 #[v49]) (fun v50 w =>
    LiftP Try.prog (binS Go.BinOp.add 3 (Go.Operand.tmp 43) (Go.Operand.const (Go.Value.int Go.IntKind.i64 1)) (vs_2.headD undef) (Go.Value.int Go.IntKind.i64 1)) (fun v51 w =>
    J_2 [v51] w) w) w) w) w) w) w) w) w) (fun w =>
      LiftP Try.prog (Instr.loadAt 3 v3) (fun v52 w =>
  R v52 w) w) w) w) [(Go.Value.int Go.IntKind.i64 0)] w) w) w) w) w) w) [(Go.Value.int Go.IntKind.i64 0)] w) w) w) w) w) w) [(Go.Value.int Go.IntKind.i64 0)] w) w) w) w) w) w) w
theorem S87.calls (a0 : Value) (R : Value → World → Prop) (w : World) (h : S87 a0 R w) : Calls Try.prog 87 #[a0] w fun e w' => ∃ v, e = .returned v ∧ R v w' :=
  calls_of_tr (n := 53) (c := bodyOf Try.f87) (.two .leaf (.two .leaf (.two .leaf (.two (.two .leaf (.one (.loop [14] (.two .leaf (.two (.two .leaf .leaf) (.two (.one (.two .leaf .leaf)) .leaf)))))) (.two (.two .leaf (.one (.loop [27] (.two .leaf (.two (.two .leaf .leaf) (.two (.one (.two .leaf (.two .leaf .leaf))) .leaf)))))) (.two (.two .leaf (.one (.loop [43] (.two .leaf (.two (.two .leaf .leaf) (.two (.one (.two .leaf .leaf)) .leaf)))))) (.two .leaf .leaf))))))) Try.func87 (by kernel_rfl) Try.ntmps87 (by kernel_rfl) (by kernel_rfl) [a0] (by kernel_rfl) (of_eq_ (by kernel_rfl) h)

/-- shelfmark/letter.bit -/
def S88 (a0 : Value) (R : Value → World → Prop) (w : World) : Prop :=
  CondP a0 (fun w =>
    R (Go.Value.int Go.IntKind.i64 1) w) (fun w =>
    R (Go.Value.int Go.IntKind.i64 0) w) w
theorem S88.calls (a0 : Value) (R : Value → World → Prop) (w : World) (h : S88 a0 R w) : Calls Try.prog 88 #[a0] w fun e w' => ∃ v, e = .returned v ∧ R v w' :=
  calls_of_tr (n := 4) (c := bodyOf Try.f88) (.two .leaf (.two (.two .leaf (.two (.two .leaf .leaf) .leaf)) (.two .leaf .leaf))) Try.func88 (by kernel_rfl) Try.ntmps88 (by kernel_rfl) (by kernel_rfl) [a0] (by kernel_rfl) (of_eq_ (by kernel_rfl) h)

/-- shelfmark/letter.texts -/
def S89 (a0 : Value) (R : Value → World → Prop) (w : World) : Prop :=
  DrawP (fun S w =>
  YieldN Try.prog S (nilChk a0) (fun v4 w =>
  YieldP Try.prog S (Instr.fieldAt 58 v4 7) (fun v5 w =>
  YieldN Try.prog S (nilChk a0) (fun v7 w =>
  YieldP Try.prog S (Instr.fieldAt 58 v7 8) (fun v8 w =>
  YieldN Try.prog S (nilChk a0) (fun v10 w =>
  YieldP Try.prog S (Instr.fieldAt 58 v10 13) (fun v11 w =>
  ActP S (fun K w => LiftP Try.prog (Instr.buildSlice 145 3 #[(0, v5), (1, v8), (2, v11)]) K w) (fun S v12 w =>
  R v12 w) w) w) w) w) w) w) w) w
theorem S89.calls (a0 : Value) (R : Value → World → Prop) (w : World) (h : S89 a0 R w) : Calls Try.prog 89 #[a0] w fun e w' => ∃ v, e = .returned v ∧ R v w' :=
  calls_of_tr (n := 13) (c := bodyOf Try.f89) (.two .leaf (.two (.draw [(true, 0), (true, 1), (true, 2), (true, 3), (true, 4), (true, 5), (true, 6), (true, 7), (true, 8), (false, 9), (true, 10)]) .leaf)) Try.func89 (by kernel_rfl) Try.ntmps89 (by kernel_rfl) (by kernel_rfl) [a0] (by kernel_rfl) (of_eq_ (by kernel_rfl) h)

/-- shelfmark/letter.bulk$1 -/
def S93 (a0 a1 : Value) (R : Value → World → Prop) (w : World) : Prop :=
  LiftP Try.prog (Instr.loadAt 3 a1) (fun v3 w =>
  LiftP Try.prog (binS Go.BinOp.leq 3 (Go.Operand.tmp 3) (Go.Operand.const (Go.Value.int Go.IntKind.i64 65536)) v3 (Go.Value.int Go.IntKind.i64 65536)) (fun v4 w =>
  CondP v4 (fun w =>
    LiftP Try.prog (Instr.loadAt 3 a1) (fun v5 w =>
    NextP Try.prog (builtin Go.Builtin.len #[9] 3 #[false] #[a0]) (fun v7 w =>
    NextP Try.prog (builtin Go.Builtin.min #[3, 3] 3 #[false, true] #[v7, (Go.Value.int Go.IntKind.i64 65537)]) (fun v8 w =>
    LiftP Try.prog (binS Go.BinOp.add 3 (Go.Operand.tmp 5) (Go.Operand.tmp 8) v5 v8) (fun v9 w =>
    LiftU Try.prog (Instr.storeAt 3 a1 v9) (fun v_ w =>
    R (.tuple #[]) w) w) w) w) w) w) (fun w =>
    R (.tuple #[]) w) w) w) w
theorem S93.calls (a0 a1 : Value) (R : Value → World → Prop) (w : World) (h : S93 a0 a1 R w) : Calls Try.prog 93 #[a0, a1] w fun e w' => ∃ v, e = .returned v ∧ R v w' :=
  calls_of_tr (n := 10) (c := bodyOf Try.f93) (.two .leaf (.two .leaf .leaf)) Try.func93 (by kernel_rfl) Try.ntmps93 (by kernel_rfl) (by kernel_rfl) [a0, a1] (by kernel_rfl) (of_eq_ (by kernel_rfl) h)

end Go.Proofs.Ythicbfopjakiiaa.E
namespace Go.Proofs.Ythicbfopjakiiaa.E
open Go Go.RowKit
set_option linter.unusedSimpArgs false
set_option linter.unusedVariables false

structure Let where
  kind : Int
  frm : Int
  to : Int
  a : Int
  b : Int
  c : Int
  d : Int
  s : ByteArray
  t : ByteArray
  code : Int
  yes : Bool
  body : ByteArray
def Let.cells (L : Let) (p q : Value) : Array Value := #[.int .i64 L.kind, .int .i64 L.frm, .int .i64 L.to, .int .i64 L.a, .int .i64 L.b, .int .i64 L.c, .int .i64 L.d, .string L.s, .string L.t, p, q, .int .i64 L.code, .bool L.yes, .string L.body]
abbrev rPair : Rdr (ByteArray × ByteArray × Unit) := rCons 1 rS (rCons 1 rS rNil)
abbrev rIntent : Rdr (ByteArray × Int × Bool × Unit) := rCons 1 rS (rCons 1 (rI .i64) (rCons 1 rBool rNil))
abbrev Pairs : Rdr (List (ByteArray × ByteArray × Unit)) := rRow 2 rPair
abbrev Intents : Rdr (List (ByteArray × Int × Bool × Unit)) := rRow 3 rIntent
theorem keeps_Pairs : Keeps Pairs := keeps_Row (keeps_Cons keeps_S (keeps_Cons keeps_S keeps_Nil))
theorem keeps_Intents : Keeps Intents := keeps_Row (keeps_Cons keeps_S (keeps_Cons (keeps_I _) (keeps_Cons keeps_Bool keeps_Nil)))
theorem pair_cells {w : World} {us : List Value} {x : ByteArray × ByteArray × Unit} (h : rPair w us x) : us = [.string x.1, .string x.2.1] ∧ x.1.size ≤ maxLen ∧ x.2.1.size ≤ maxLen := by
  obtain ⟨r, rfl, h1, h⟩ := rCons_S h
  obtain ⟨r, rfl, h2, h⟩ := rCons_S h
  have : r = [] := h
  subst this
  exact ⟨rfl, h1, h2⟩
theorem intent_cells {w : World} {us : List Value} {x : ByteArray × Int × Bool × Unit} (h : rIntent w us x) : us = [.string x.1, .int .i64 x.2.1, .bool x.2.2.1] ∧ x.1.size ≤ maxLen := by
  obtain ⟨r, rfl, h1, h⟩ := rCons_S h
  obtain ⟨r, rfl, _, h⟩ := rCons_I h
  obtain ⟨r, rfl, h9⟩ := rCons_Bool h
  have : r = [] := h9
  subst this
  exact ⟨rfl, h1⟩
theorem und55 : Try.prog.underlying 55 = some (.slice 64) := by kernel_rfl
theorem und56 : Try.prog.underlying 56 = some (.slice 68) := by kernel_rfl
theorem sz64 : (Try.prog.info? 64).map (·.size) = some 2 := by kernel_rfl
theorem sz68 : (Try.prog.info? 68).map (·.size) = some 3 := by kernel_rfl
theorem agg64 : aggB Try.prog 64 = true := by kernel_rfl
theorem agg68 : aggB Try.prog 68 = true := by kernel_rfl
theorem z64 : (Try.prog.info? 64).bind (·.zero) = some (.agg #[.string ⟨#[]⟩, .string ⟨#[]⟩]) := by kernel_rfl
theorem z68 : (Try.prog.info? 68).bind (·.zero) = some (.agg #[.string ⟨#[]⟩, .int .i64 0, .bool false]) := by kernel_rfl
theorem und145 : Try.prog.underlying 145 = some (.slice 147) := by kernel_rfl
theorem sz147 : (Try.prog.info? 147).map (·.size) = some 1 := by kernel_rfl
theorem one147 : oneB Try.prog 147 = true := by kernel_rfl
theorem one55 : oneB Try.prog 55 = true := by kernel_rfl
theorem one56 : oneB Try.prog 56 = true := by kernel_rfl
theorem one4 : oneB Try.prog 4 = true := by kernel_rfl
theorem sz58 : (Try.prog.info? 58).map (·.size) = some 14 := by kernel_rfl
theorem agg58 : aggB Try.prog 58 = true := by kernel_rfl
theorem l0 : fofs Try.prog 58 0 = some (0, 1) := by kernel_rfl
theorem l1 : fofs Try.prog 58 1 = some (1, 1) := by kernel_rfl
theorem l2 : fofs Try.prog 58 2 = some (2, 1) := by kernel_rfl
theorem l3 : fofs Try.prog 58 3 = some (3, 1) := by kernel_rfl
theorem l4 : fofs Try.prog 58 4 = some (4, 1) := by kernel_rfl
theorem l5 : fofs Try.prog 58 5 = some (5, 1) := by kernel_rfl
theorem l6 : fofs Try.prog 58 6 = some (6, 1) := by kernel_rfl
theorem l7 : fofs Try.prog 58 7 = some (7, 1) := by kernel_rfl
theorem l8 : fofs Try.prog 58 8 = some (8, 1) := by kernel_rfl
theorem l9 : fofs Try.prog 58 9 = some (9, 1) := by kernel_rfl
theorem l10 : fofs Try.prog 58 10 = some (10, 1) := by kernel_rfl
theorem l11 : fofs Try.prog 58 11 = some (11, 1) := by kernel_rfl
theorem l12 : fofs Try.prog 58 12 = some (12, 1) := by kernel_rfl
theorem l13 : fofs Try.prog 58 13 = some (13, 1) := by kernel_rfl
theorem p0' : fofs Try.prog 64 0 = some (0, 1) := by kernel_rfl
theorem p1' : fofs Try.prog 64 1 = some (1, 1) := by kernel_rfl
theorem q0' : fofs Try.prog 68 0 = some (0, 1) := by kernel_rfl
theorem q1' : fofs Try.prog 68 1 = some (1, 1) := by kernel_rfl
theorem q2' : fofs Try.prog 68 2 = some (2, 1) := by kernel_rfl

theorem within_spec (n m : Int) (w : World) : CallP Try.prog 85 #[.int .i64 n, .int .i64 m] (fun r w' => r = .bool (decide (0 ≤ n ∧ n ≤ m)) ∧ w = w') w := by
  refine ⟨S85.calls _ _ _ _ ?_⟩
  unfold S85
  (first | refine bi_lss_c (fun h => ?_) (fun h => ?_) | refine bi_eql_c (fun h => ?_) (fun h => ?_) | refine bi_neq_c (fun h => ?_) (fun h => ?_) | refine bi_gtr_c (fun h => ?_) (fun h => ?_) | refine bi_leq_c (fun h => ?_) (fun h => ?_) | refine bi_geq_c (fun h => ?_) (fun h => ?_) | refine bi_seql_c (fun h => ?_) (fun h => ?_) | refine bi_sneq_c (fun h => ?_) (fun h => ?_))
  · (repeat with_reducible first|refine z_a ?_|refine z_b ?_|refine z_c ?_|refine z_d ?_|refine z_e ?_|refine z_f ?_|refine z_g ?_|refine z_h ?_|refine z_i ?_|refine z_j ?_|refine z_k ?_|refine z_l ?_|refine z_m (by omega) ?_|refine z_n (by omega) ?_|refine z_o (by omega) ?_|refine z_p (by omega) ?_|refine z_q (by omega) ?_|refine z_r (by omega) ?_|refine z_s (by omega) ?_|refine z_t (by omega) ?_|refine z_u (by omega) ?_|refine z_v (by omega) ?_|refine z_w (by omega) ?_|refine z_x (by omega) ?_|refine z_y (by omega) ?_|refine z_z (by omega) ?_|refine z_A ?_|refine z_B ?_|refine z_C ?_|refine z_D ?_|refine z_E ?_|refine z_F ?_|refine z_G ?_|refine z_H ?_|refine z_I ?_|refine z_J ?_|refine z_K (by omega) (by decide) ?_|refine z_L (by omega) (by decide) ?_|refine z_M (by omega) ?_|refine z_N (by omega) ?_|refine z_O (by omega) ?_|refine z_P ?_|refine z_Q ?_|refine z_R ?_|refine z_S ?_|refine z_T ?_|refine z_U (by decide) ?_|refine z_V (by decide) ?_)
    (first | refine bi_lss_c (fun h => ?_) (fun h => ?_) | refine bi_eql_c (fun h => ?_) (fun h => ?_) | refine bi_neq_c (fun h => ?_) (fun h => ?_) | refine bi_gtr_c (fun h => ?_) (fun h => ?_) | refine bi_leq_c (fun h => ?_) (fun h => ?_) | refine bi_geq_c (fun h => ?_) (fun h => ?_) | refine bi_seql_c (fun h => ?_) (fun h => ?_) | refine bi_sneq_c (fun h => ?_) (fun h => ?_))
    · (repeat with_reducible first|refine z_a ?_|refine z_b ?_|refine z_c ?_|refine z_d ?_|refine z_e ?_|refine z_f ?_|refine z_g ?_|refine z_h ?_|refine z_i ?_|refine z_j ?_|refine z_k ?_|refine z_l ?_|refine z_m (by omega) ?_|refine z_n (by omega) ?_|refine z_o (by omega) ?_|refine z_p (by omega) ?_|refine z_q (by omega) ?_|refine z_r (by omega) ?_|refine z_s (by omega) ?_|refine z_t (by omega) ?_|refine z_u (by omega) ?_|refine z_v (by omega) ?_|refine z_w (by omega) ?_|refine z_x (by omega) ?_|refine z_y (by omega) ?_|refine z_z (by omega) ?_|refine z_A ?_|refine z_B ?_|refine z_C ?_|refine z_D ?_|refine z_E ?_|refine z_F ?_|refine z_G ?_|refine z_H ?_|refine z_I ?_|refine z_J ?_|refine z_K (by omega) (by decide) ?_|refine z_L (by omega) (by decide) ?_|refine z_M (by omega) ?_|refine z_N (by omega) ?_|refine z_O (by omega) ?_|refine z_P ?_|refine z_Q ?_|refine z_R ?_|refine z_S ?_|refine z_T ?_|refine z_U (by decide) ?_|refine z_V (by decide) ?_)
      exact ⟨by rw [decide_eq_true (by omega)], rfl⟩
    · (repeat with_reducible first|refine z_a ?_|refine z_b ?_|refine z_c ?_|refine z_d ?_|refine z_e ?_|refine z_f ?_|refine z_g ?_|refine z_h ?_|refine z_i ?_|refine z_j ?_|refine z_k ?_|refine z_l ?_|refine z_m (by omega) ?_|refine z_n (by omega) ?_|refine z_o (by omega) ?_|refine z_p (by omega) ?_|refine z_q (by omega) ?_|refine z_r (by omega) ?_|refine z_s (by omega) ?_|refine z_t (by omega) ?_|refine z_u (by omega) ?_|refine z_v (by omega) ?_|refine z_w (by omega) ?_|refine z_x (by omega) ?_|refine z_y (by omega) ?_|refine z_z (by omega) ?_|refine z_A ?_|refine z_B ?_|refine z_C ?_|refine z_D ?_|refine z_E ?_|refine z_F ?_|refine z_G ?_|refine z_H ?_|refine z_I ?_|refine z_J ?_|refine z_K (by omega) (by decide) ?_|refine z_L (by omega) (by decide) ?_|refine z_M (by omega) ?_|refine z_N (by omega) ?_|refine z_O (by omega) ?_|refine z_P ?_|refine z_Q ?_|refine z_R ?_|refine z_S ?_|refine z_T ?_|refine z_U (by decide) ?_|refine z_V (by decide) ?_)
      exact ⟨by rw [decide_eq_false (by omega)], rfl⟩
  · (repeat with_reducible first|refine z_a ?_|refine z_b ?_|refine z_c ?_|refine z_d ?_|refine z_e ?_|refine z_f ?_|refine z_g ?_|refine z_h ?_|refine z_i ?_|refine z_j ?_|refine z_k ?_|refine z_l ?_|refine z_m (by omega) ?_|refine z_n (by omega) ?_|refine z_o (by omega) ?_|refine z_p (by omega) ?_|refine z_q (by omega) ?_|refine z_r (by omega) ?_|refine z_s (by omega) ?_|refine z_t (by omega) ?_|refine z_u (by omega) ?_|refine z_v (by omega) ?_|refine z_w (by omega) ?_|refine z_x (by omega) ?_|refine z_y (by omega) ?_|refine z_z (by omega) ?_|refine z_A ?_|refine z_B ?_|refine z_C ?_|refine z_D ?_|refine z_E ?_|refine z_F ?_|refine z_G ?_|refine z_H ?_|refine z_I ?_|refine z_J ?_|refine z_K (by omega) (by decide) ?_|refine z_L (by omega) (by decide) ?_|refine z_M (by omega) ?_|refine z_N (by omega) ?_|refine z_O (by omega) ?_|refine z_P ?_|refine z_Q ?_|refine z_R ?_|refine z_S ?_|refine z_T ?_|refine z_U (by decide) ?_|refine z_V (by decide) ?_)
    exact ⟨by rw [decide_eq_false (by omega)], rfl⟩
theorem bit_spec (b : Bool) (w : World) : CallP Try.prog 88 #[.bool b] (fun r w' => r = .int .i64 ((if b then 1 else 0 : Nat) : Int) ∧ w = w') w := by
  refine ⟨S88.calls _ _ _ ?_⟩
  unfold S88
  cases b
  · (repeat with_reducible first|refine z_a ?_|refine z_b ?_|refine z_c ?_|refine z_d ?_|refine z_e ?_|refine z_f ?_|refine z_g ?_|refine z_h ?_|refine z_i ?_|refine z_j ?_|refine z_k ?_|refine z_l ?_|refine z_m (by omega) ?_|refine z_n (by omega) ?_|refine z_o (by omega) ?_|refine z_p (by omega) ?_|refine z_q (by omega) ?_|refine z_r (by omega) ?_|refine z_s (by omega) ?_|refine z_t (by omega) ?_|refine z_u (by omega) ?_|refine z_v (by omega) ?_|refine z_w (by omega) ?_|refine z_x (by omega) ?_|refine z_y (by omega) ?_|refine z_z (by omega) ?_|refine z_A ?_|refine z_B ?_|refine z_C ?_|refine z_D ?_|refine z_E ?_|refine z_F ?_|refine z_G ?_|refine z_H ?_|refine z_I ?_|refine z_J ?_|refine z_K (by omega) (by decide) ?_|refine z_L (by omega) (by decide) ?_|refine z_M (by omega) ?_|refine z_N (by omega) ?_|refine z_O (by omega) ?_|refine z_P ?_|refine z_Q ?_|refine z_R ?_|refine z_S ?_|refine z_T ?_|refine z_U (by decide) ?_|refine z_V (by decide) ?_)
    exact ⟨rfl, rfl⟩
  · (repeat with_reducible first|refine z_a ?_|refine z_b ?_|refine z_c ?_|refine z_d ?_|refine z_e ?_|refine z_f ?_|refine z_g ?_|refine z_h ?_|refine z_i ?_|refine z_j ?_|refine z_k ?_|refine z_l ?_|refine z_m (by omega) ?_|refine z_n (by omega) ?_|refine z_o (by omega) ?_|refine z_p (by omega) ?_|refine z_q (by omega) ?_|refine z_r (by omega) ?_|refine z_s (by omega) ?_|refine z_t (by omega) ?_|refine z_u (by omega) ?_|refine z_v (by omega) ?_|refine z_w (by omega) ?_|refine z_x (by omega) ?_|refine z_y (by omega) ?_|refine z_z (by omega) ?_|refine z_A ?_|refine z_B ?_|refine z_C ?_|refine z_D ?_|refine z_E ?_|refine z_F ?_|refine z_G ?_|refine z_H ?_|refine z_I ?_|refine z_J ?_|refine z_K (by omega) (by decide) ?_|refine z_L (by omega) (by decide) ?_|refine z_M (by omega) ?_|refine z_N (by omega) ?_|refine z_O (by omega) ?_|refine z_P ?_|refine z_Q ?_|refine z_R ?_|refine z_S ?_|refine z_T ?_|refine z_U (by decide) ?_|refine z_V (by decide) ?_)
    exact ⟨rfl, rfl⟩
def ptrs (g : Nat) (l : List Nat) : List Value := l.map fun i => .pointer (some ⟨g, i, none⟩)
theorem numbers_spec (g : Nat) (w : World) : CallP Try.prog 86 #[.pointer (some ⟨g, 0, none⟩)] (fun r w' => Own 102 w' r (ptrs g [1, 2, 3, 4, 5, 6]) ∧ Fresh w.heap.size r ∧ Below w.heap.size w w') w := by
  refine ⟨S86.calls _ _ _ ?_⟩
  unfold S86
  have hdr : Below w.heap.size w w.drew := (Below.refl _ _).drew
  refine draw (fun _ => True) trivial ?_
  (repeat with_reducible first | refine yfd l1 (by decide) ?_| refine yfd l2 (by decide) ?_| refine yfd l3 (by decide) ?_| refine yfd l4 (by decide) ?_| refine yfd l5 (by decide) ?_| refine yfd l6 (by decide) ?_|refine z_W ?_|refine z_a ?_|refine z_b ?_|refine z_c ?_|refine z_d ?_|refine z_e ?_|refine z_f ?_|refine z_g ?_|refine z_h ?_|refine z_i ?_|refine z_j ?_|refine z_k ?_|refine z_l ?_|refine z_X (by omega) ?_|refine z_Y (by omega) ?_|refine z_Z (by omega) ?_|refine z_a1 (by omega) ?_|refine z_b1 (by omega) ?_|refine z_c1 (by omega) ?_|refine z_d1 (by omega) ?_|refine z_e1 (by omega) ?_|refine z_f1 (by omega) ?_|refine z_g1 (by omega) ?_|refine z_h1 (by omega) ?_|refine z_i1 (by omega) ?_|refine z_j1 (by omega) ?_|refine z_k1 (by omega) ?_|refine z_l1 ?_|refine z_m1 ?_|refine z_n1 ?_|refine z_o1 ?_|refine z_p1 ?_|refine z_q1 ?_|refine z_r1 ?_|refine z_s1 ?_|refine z_t1 ?_|refine z_u1 ?_|refine z_v1 (by omega) (by decide) ?_|refine z_w1 (by omega) (by decide) ?_|refine z_x1 (by omega) ?_|refine z_y1 (by omega) ?_|refine z_z1 (by omega) ?_|refine z_A1 ?_|refine z_B1 ?_|refine z_C1 ?_|refine z_D1 ?_|refine z_E1 ?_|refine z_F1 (by decide) ?_|refine z_G1 (by decide) ?_)
  refine act ?_
  refine lift (v := .slice (some ⟨w.drew.heap.size, 0, none⟩) 6 6) (w' := w.drew.alloc (.cells (ptrs g [1, 2, 3, 4, 5, 6]).toArray 102)) (by kernel_rfl) ?_
  refine ⟨fun _ => True, trivial, fun _ h => h, ?_⟩
  exact ⟨(Own.new w.drew 102 (ptrs g [1, 2, 3, 4, 5, 6]) (by simp [ptrs])), fun k hk => by cases hk; exact hdr.size, below_then hdr ((Below.refl _ _).alloc (Nat.le_refl _) _)⟩
theorem texts_spec (g : Nat) (w : World) : CallP Try.prog 89 #[.pointer (some ⟨g, 0, none⟩)] (fun r w' => Own 147 w' r (ptrs g [7, 8, 13]) ∧ Fresh w.heap.size r ∧ Below w.heap.size w w') w := by
  refine ⟨S89.calls _ _ _ ?_⟩
  unfold S89
  have hdr : Below w.heap.size w w.drew := (Below.refl _ _).drew
  refine draw (fun _ => True) trivial ?_
  (repeat with_reducible first | refine yfd l7 (by decide) ?_| refine yfd l8 (by decide) ?_| refine yfd l13 (by decide) ?_|refine z_W ?_|refine z_a ?_|refine z_b ?_|refine z_c ?_|refine z_d ?_|refine z_e ?_|refine z_f ?_|refine z_g ?_|refine z_h ?_|refine z_i ?_|refine z_j ?_|refine z_k ?_|refine z_l ?_|refine z_X (by omega) ?_|refine z_Y (by omega) ?_|refine z_Z (by omega) ?_|refine z_a1 (by omega) ?_|refine z_b1 (by omega) ?_|refine z_c1 (by omega) ?_|refine z_d1 (by omega) ?_|refine z_e1 (by omega) ?_|refine z_f1 (by omega) ?_|refine z_g1 (by omega) ?_|refine z_h1 (by omega) ?_|refine z_i1 (by omega) ?_|refine z_j1 (by omega) ?_|refine z_k1 (by omega) ?_|refine z_l1 ?_|refine z_m1 ?_|refine z_n1 ?_|refine z_o1 ?_|refine z_p1 ?_|refine z_q1 ?_|refine z_r1 ?_|refine z_s1 ?_|refine z_t1 ?_|refine z_u1 ?_|refine z_v1 (by omega) (by decide) ?_|refine z_w1 (by omega) (by decide) ?_|refine z_x1 (by omega) ?_|refine z_y1 (by omega) ?_|refine z_z1 (by omega) ?_|refine z_A1 ?_|refine z_B1 ?_|refine z_C1 ?_|refine z_D1 ?_|refine z_E1 ?_|refine z_F1 (by decide) ?_|refine z_G1 (by decide) ?_)
  refine act ?_
  refine lift (v := .slice (some ⟨w.drew.heap.size, 0, none⟩) 3 3) (w' := w.drew.alloc (.cells (ptrs g [7, 8, 13]).toArray 147)) (by kernel_rfl) ?_
  refine ⟨fun _ => True, trivial, fun _ h => h, ?_⟩
  exact ⟨(Own.new w.drew 147 (ptrs g [7, 8, 13]) (by simp [ptrs])), fun k hk => by cases hk; exact hdr.size, below_then hdr ((Below.refl _ _).alloc (Nat.le_refl _) _)⟩
/-- The bulk so far, and a text more. -/
def addB (n : Nat) (s : ByteArray) : Nat := if n ≤ 65536 then n + min s.size 65537 else n
theorem addB_le (n : Nat) (s : ByteArray) (h : n ≤ 131073) : addB n s ≤ 131073 := by unfold addB; split <;> omega
theorem bulk1_spec (g n : Nat) (s : ByteArray) (w : World) (hb : Blk w g 3 #[.int .i64 n]) (hn : n ≤ 131073) :
    CallP Try.prog 93 #[.string s, .pointer (some ⟨g, 0, none⟩)] (fun r w' => Blk w' g 3 #[.int .i64 (addB n s)] ∧ Turns (fun k => k = g) w w') w := by
  have c0 : w.cell? ⟨g, 0, none⟩ = some (.int .i64 n) := hb.cell 0
  refine ⟨S93.calls _ _ _ _ ?_⟩
  unfold S93 addB
  (repeat with_reducible first | refine ld one3 c0 ?_|refine z_a ?_|refine z_b ?_|refine z_c ?_|refine z_d ?_|refine z_e ?_|refine z_f ?_|refine z_g ?_|refine z_h ?_|refine z_i ?_|refine z_j ?_|refine z_k ?_|refine z_l ?_|refine z_m (by omega) ?_|refine z_n (by omega) ?_|refine z_o (by omega) ?_|refine z_p (by omega) ?_|refine z_q (by omega) ?_|refine z_r (by omega) ?_|refine z_s (by omega) ?_|refine z_t (by omega) ?_|refine z_u (by omega) ?_|refine z_v (by omega) ?_|refine z_w (by omega) ?_|refine z_x (by omega) ?_|refine z_y (by omega) ?_|refine z_z (by omega) ?_|refine z_A ?_|refine z_B ?_|refine z_C ?_|refine z_D ?_|refine z_E ?_|refine z_F ?_|refine z_G ?_|refine z_H ?_|refine z_I ?_|refine z_J ?_|refine z_K (by omega) (by decide) ?_|refine z_L (by omega) (by decide) ?_|refine z_M (by omega) ?_|refine z_N (by omega) ?_|refine z_O (by omega) ?_|refine z_P ?_|refine z_Q ?_|refine z_R ?_|refine z_S ?_|refine z_T ?_|refine z_U (by decide) ?_|refine z_V (by decide) ?_)
  (first | refine bi_lss_c (fun h => ?_) (fun h => ?_) | refine bi_eql_c (fun h => ?_) (fun h => ?_) | refine bi_neq_c (fun h => ?_) (fun h => ?_) | refine bi_gtr_c (fun h => ?_) (fun h => ?_) | refine bi_leq_c (fun h => ?_) (fun h => ?_) | refine bi_geq_c (fun h => ?_) (fun h => ?_) | refine bi_seql_c (fun h => ?_) (fun h => ?_) | refine bi_sneq_c (fun h => ?_) (fun h => ?_))
  · (repeat with_reducible first | refine ld one3 c0 ?_|refine z_a ?_|refine z_b ?_|refine z_c ?_|refine z_d ?_|refine z_e ?_|refine z_f ?_|refine z_g ?_|refine z_h ?_|refine z_i ?_|refine z_j ?_|refine z_k ?_|refine z_l ?_|refine z_m (by omega) ?_|refine z_n (by omega) ?_|refine z_o (by omega) ?_|refine z_p (by omega) ?_|refine z_q (by omega) ?_|refine z_r (by omega) ?_|refine z_s (by omega) ?_|refine z_t (by omega) ?_|refine z_u (by omega) ?_|refine z_v (by omega) ?_|refine z_w (by omega) ?_|refine z_x (by omega) ?_|refine z_y (by omega) ?_|refine z_z (by omega) ?_|refine z_A ?_|refine z_B ?_|refine z_C ?_|refine z_D ?_|refine z_E ?_|refine z_F ?_|refine z_G ?_|refine z_H ?_|refine z_I ?_|refine z_J ?_|refine z_K (by omega) (by decide) ?_|refine z_L (by omega) (by decide) ?_|refine z_M (by omega) ?_|refine z_N (by omega) ?_|refine z_O (by omega) ?_|refine z_P ?_|refine z_Q ?_|refine z_R ?_|refine z_S ?_|refine z_T ?_|refine z_U (by decide) ?_|refine z_V (by decide) ?_)
    refine lns und9 ?_
    refine mnI ?_
    have e : ((n : Int) + min (s.size : Int) 65537) = ((n + min s.size 65537 : Nat) : Int) := by omega
    refine bi_add64 (by omega) ?_
    rw [e]
    refine st sz3 rfl (by rw [c0]; rfl) (hb.frozen 0) ?_
    rw [if_pos (by omega)]
    exact ⟨hb.set_ 0 _, Turns.setCell (F := fun k => k = g) (p := ⟨g, 0, none⟩) (Turns.refl _ w) (.inl rfl) _⟩
  · (repeat with_reducible first|refine z_a ?_|refine z_b ?_|refine z_c ?_|refine z_d ?_|refine z_e ?_|refine z_f ?_|refine z_g ?_|refine z_h ?_|refine z_i ?_|refine z_j ?_|refine z_k ?_|refine z_l ?_|refine z_m (by omega) ?_|refine z_n (by omega) ?_|refine z_o (by omega) ?_|refine z_p (by omega) ?_|refine z_q (by omega) ?_|refine z_r (by omega) ?_|refine z_s (by omega) ?_|refine z_t (by omega) ?_|refine z_u (by omega) ?_|refine z_v (by omega) ?_|refine z_w (by omega) ?_|refine z_x (by omega) ?_|refine z_y (by omega) ?_|refine z_z (by omega) ?_|refine z_A ?_|refine z_B ?_|refine z_C ?_|refine z_D ?_|refine z_E ?_|refine z_F ?_|refine z_G ?_|refine z_H ?_|refine z_I ?_|refine z_J ?_|refine z_K (by omega) (by decide) ?_|refine z_L (by omega) (by decide) ?_|refine z_M (by omega) ?_|refine z_N (by omega) ?_|refine z_O (by omega) ?_|refine z_P ?_|refine z_Q ?_|refine z_R ?_|refine z_S ?_|refine z_T ?_|refine z_U (by decide) ?_|refine z_V (by decide) ?_)
    rw [if_neg (by omega)]
    exact ⟨hb, Turns.refl _ w⟩
end Go.Proofs.Ythicbfopjakiiaa.E
namespace Go.Proofs.Ythicbfopjakiiaa.E
open Go Go.RowKit
set_option linter.unusedSimpArgs false
set_option linter.unusedVariables false

theorem call93 : callable Try.prog 93 = true := by kernel_rfl
theorem z3 : (Try.prog.info? 3).bind (·.zero) = some (.int .i64 0) := by kernel_rfl
/-- The bulk of a letter, as it is reckoned. -/
def bulkT (L : Let) : Nat := addB (addB (addB 0 L.s) L.t) L.body
def bulkP (n : Nat) (l : List (ByteArray × ByteArray × Unit)) : Nat := l.foldl (fun n p => addB (addB n p.1) p.2.1) n
def bulkI (n : Nat) (l : List (ByteArray × Int × Bool × Unit)) : Nat := l.foldl (fun n p => addB n p.1) n
def bulkL (L : Let) (ps : List (ByteArray × ByteArray × Unit)) (is : List (ByteArray × Int × Bool × Unit)) : Nat := bulkI (bulkP (bulkT L) ps) is
theorem foldl_take_succ {α β : Type} (f : β → α → β) (b : β) (l : List α) (k : Nat) (hk : k < l.length) : (l.take (k + 1)).foldl f b = f ((l.take k).foldl f b) l[k] := by
  rw [List.take_succ_eq_append_getElem hk, List.foldl_append]; rfl
theorem bulkP_le (n : Nat) (hn : n ≤ 131073) : ∀ l, bulkP n l ≤ 131073 := by
  intro l
  unfold bulkP
  induction l generalizing n with
  | nil => exact hn
  | cons p r ih => exact ih _ (addB_le _ _ (addB_le _ _ hn))
theorem bulkI_le (n : Nat) (hn : n ≤ 131073) : ∀ l, bulkI n l ≤ 131073 := by
  intro l
  unfold bulkI
  induction l generalizing n with
  | nil => exact hn
  | cons p r ih => exact ih _ (addB_le _ _ hn)
theorem bulkT_le (L : Let) : bulkT L ≤ 131073 := addB_le _ _ (addB_le _ _ (addB_le _ _ (by omega)))
theorem bulk_spec (L : Let) (p q : Value) (ps : List (ByteArray × ByteArray × Unit)) (is : List (ByteArray × Int × Bool × Unit)) (w : World) (hp : Pairs w [p] ps) (hq : Intents w [q] is) :
    CallP Try.prog 87 #[.agg (L.cells p q)] (fun r w' => r = .int .i64 (bulkL L ps is) ∧ Below w.heap.size w w') w := by
  obtain ⟨A, cA, rfl, hcA, hmA⟩ := hp.slice
  obtain ⟨A', cA', rfl, hcA', hmA'⟩ := hq.slice
  refine ⟨S87.calls _ _ _ ?_⟩
  unfold S87
  refine bx ?_
  have hL0 : Blk (w.alloc (.cells (Value.agg (L.cells (.slice A ps.length cA) (.slice A' is.length cA'))).cells 58)) w.heap.size 58 (L.cells (.slice A ps.length cA) (.slice A' is.length cA')) := Blk.new w 58 _
  have ha := (Below.refl w.heap.size w).alloc (Nat.le_refl _) (.cells (Value.agg (L.cells (.slice A ps.length cA) (.slice A' is.length cA'))).cells 58)
  generalize w.alloc (.cells (Value.agg (L.cells (.slice A ps.length cA) (.slice A' is.length cA'))).cells 58) = w1 at *
  refine al z3 ?_
  have hN0 : Blk (w1.alloc (.cells (Value.int .i64 0).cells 3)) w1.heap.size 3 #[.int .i64 0] := Blk.new w1 3 _
  have ha2 := (Below.refl w1.heap.size w1).alloc (Nat.le_refl _) (.cells (Value.int .i64 0).cells 3)
  have hL1 := hL0.below' ha2
  have hgN : w.heap.size < w1.heap.size := hL0.lt
  generalize hgn : w1.heap.size = gn at *
  generalize w1.alloc (.cells (Value.int .i64 0).cells 3) = w2 at *
  have hb2 : Below w.heap.size w w2 := ha.trans (ha2.mono (by omega))
  refine st sz3 rfl (by rw [hN0.cell 0]; rfl) (hN0.frozen 0) ?_
  have hN1 := hN0.set_ 0 (.int .i64 0)
  have hL2 : Blk (w2.setCell ⟨gn, 0, none⟩ (.int .i64 0)) w.heap.size 58 (L.cells (.slice A ps.length cA) (.slice A' is.length cA')) := hL1.turns (Turns.setCell (F := fun k => k = gn) (p := ⟨gn, 0, none⟩) (Turns.refl _ w2) (.inl rfl) _) (by omega)
  have hb3 := hb2.setCell (p := ⟨gn, 0, none⟩) (by show w.heap.size ≤ gn; omega) (.int .i64 0)
  generalize w2.setCell ⟨gn, 0, none⟩ (.int .i64 0) = w3 at *
  refine mkf ?_
  refine (texts_spec w.heap.size w3).mono ?_
  rintro vt w4 ⟨hvo, hft, hb4⟩
  have hvt := hvo.rd
  have hL4 := hL2.below' hb4
  have hN4 := hN1.below' hb4
  have hb4' := below_then hb3 hb4
  have hs3 : gn < w3.heap.size := hN1.lt
  obtain ⟨At, ct, rfl, hct, _⟩ := hvt.slice
  clear hvo
  have hlen3 : (ptrs w.heap.size [7, 8, 13]).length = 3 := by simp [ptrs]
  rw [hlen3] at hvt hft ⊢
  have keepT : ∀ {wa wb : World}, Below w.heap.size w wa → Turns (fun k => k = gn) wa wb → Below w.heap.size w wb := fun h1 h2 => h1.trans (h2.below h1.size fun k hk he => by omega)
  refine ln und145 ?_
  refine LoopP.inv1 (fun i w' => ∃ k : Nat, k ≤ 3 ∧ i = .int .i64 k ∧ Blk w' gn 3 #[.int .i64 (([L.s, L.t, L.body].take k).foldl addB 0 : Nat)] ∧ Blk w' w.heap.size 58 (L.cells (.slice A ps.length cA) (.slice A' is.length cA')) ∧ Rd w' (.slice At 3 ct) (ptrs w.heap.size [7, 8, 13]) ∧ Below w.heap.size w w') (fun i _ => 3 - (intOf i).toNat)
    ⟨0, by omega, rfl, hN4, hL4, hvt, hb4'⟩ ?_
  rintro _ w5 ⟨k, hk, rfl, hN5, hL5, hv5, hb5⟩ J hJ
  dsimp only [List.headD_cons, List.tail_cons]
  refine bi_lss_c (fun h => ?_) (fun h => ?_)
  · have hk3 : k < 3 := by omega
    obtain ⟨a, rfl, hca⟩ := Rd.at hv5 k (by omega)
    have hsmall : ([L.s, L.t, L.body].take k).foldl addB 0 ≤ 131073 := by
      obtain rfl | rfl | rfl : k = 0 ∨ k = 1 ∨ k = 2 := by omega
      · simp
      · exact addB_le _ _ (Nat.zero_le _)
      · exact addB_le _ _ (addB_le _ _ (Nat.zero_le _))
    have hcell : w5.cell? ⟨w.heap.size, ([7, 8, 13] : List Nat)[k]'(by simpa using hk3), none⟩ = some (.string ([L.s, L.t, L.body][k]'(by simpa using hk3))) := by
      obtain rfl | rfl | rfl : k = 0 ∨ k = 1 ∨ k = 2 := by omega
      · exact hL5.cell 7
      · exact hL5.cell 8
      · exact hL5.cell 13
    have hca' : w5.cell? (a.add k) = some (.pointer (some ⟨w.heap.size, ([7, 8, 13] : List Nat)[k]'(by simpa using hk3), none⟩)) := by rw [hca]; simp only [ptrs, List.getElem_map]
    (repeat with_reducible first | refine ix1 und145 sz147 hk3 ?_| refine ld one147 hca' ?_| refine ld one9 hcell ?_|refine z_a ?_|refine z_b ?_|refine z_c ?_|refine z_d ?_|refine z_e ?_|refine z_f ?_|refine z_g ?_|refine z_h ?_|refine z_i ?_|refine z_j ?_|refine z_k ?_|refine z_l ?_|refine z_m (by omega) ?_|refine z_n (by omega) ?_|refine z_o (by omega) ?_|refine z_p (by omega) ?_|refine z_q (by omega) ?_|refine z_r (by omega) ?_|refine z_s (by omega) ?_|refine z_t (by omega) ?_|refine z_u (by omega) ?_|refine z_v (by omega) ?_|refine z_w (by omega) ?_|refine z_x (by omega) ?_|refine z_y (by omega) ?_|refine z_z (by omega) ?_|refine z_A ?_|refine z_B ?_|refine z_C ?_|refine z_D ?_|refine z_E ?_|refine z_F ?_|refine z_G ?_|refine z_H ?_|refine z_I ?_|refine z_J ?_|refine z_K (by omega) (by decide) ?_|refine z_L (by omega) (by decide) ?_|refine z_M (by omega) ?_|refine z_N (by omega) ?_|refine z_O (by omega) ?_|refine z_P ?_|refine z_Q ?_|refine z_R ?_|refine z_S ?_|refine z_T ?_|refine z_U (by decide) ?_|refine z_V (by decide) ?_)
    refine cvl call93 ?_
    refine (bulk1_spec gn _ _ w5 hN5 hsmall).mono ?_
    rintro _ w6 ⟨hN6, hT6⟩
    have hL6 := hL5.turns hT6 (by omega)
    have hv6 := Rd.turns hv5 hT6 (.inr fun b hb he => by have := hft b hb; omega)
    have hb6 := keepT hb5 hT6
    (repeat with_reducible first|refine z_a ?_|refine z_b ?_|refine z_c ?_|refine z_d ?_|refine z_e ?_|refine z_f ?_|refine z_g ?_|refine z_h ?_|refine z_i ?_|refine z_j ?_|refine z_k ?_|refine z_l ?_|refine z_m (by omega) ?_|refine z_n (by omega) ?_|refine z_o (by omega) ?_|refine z_p (by omega) ?_|refine z_q (by omega) ?_|refine z_r (by omega) ?_|refine z_s (by omega) ?_|refine z_t (by omega) ?_|refine z_u (by omega) ?_|refine z_v (by omega) ?_|refine z_w (by omega) ?_|refine z_x (by omega) ?_|refine z_y (by omega) ?_|refine z_z (by omega) ?_|refine z_A ?_|refine z_B ?_|refine z_C ?_|refine z_D ?_|refine z_E ?_|refine z_F ?_|refine z_G ?_|refine z_H ?_|refine z_I ?_|refine z_J ?_|refine z_K (by omega) (by decide) ?_|refine z_L (by omega) (by decide) ?_|refine z_M (by omega) ?_|refine z_N (by omega) ?_|refine z_O (by omega) ?_|refine z_P ?_|refine z_Q ?_|refine z_R ?_|refine z_S ?_|refine z_T ?_|refine z_U (by decide) ?_|refine z_V (by decide) ?_)
    refine hJ _ _ ⟨k + 1, by omega, by simp, ?_, hL6, hv6, hb6⟩ (by simp [intOf]; omega)
    rw [foldl_take_succ _ _ _ k (by simpa using hk3)]
    exact hN6
  have hk3 : k = 3 := by omega
  subst hk3
  clear hJ
  have hT0 : ([L.s, L.t, L.body].take 3).foldl addB 0 = bulkT L := rfl
  rw [hT0] at hN5
  have c9 : w5.cell? ⟨w.heap.size, 9, none⟩ = some (.slice A ps.length cA) := hL5.cell 9
  (repeat with_reducible first | refine fd l9 (by decide) ?_| refine ld one55 c9 ?_|refine z_a ?_|refine z_b ?_|refine z_c ?_|refine z_d ?_|refine z_e ?_|refine z_f ?_|refine z_g ?_|refine z_h ?_|refine z_i ?_|refine z_j ?_|refine z_k ?_|refine z_l ?_|refine z_m (by omega) ?_|refine z_n (by omega) ?_|refine z_o (by omega) ?_|refine z_p (by omega) ?_|refine z_q (by omega) ?_|refine z_r (by omega) ?_|refine z_s (by omega) ?_|refine z_t (by omega) ?_|refine z_u (by omega) ?_|refine z_v (by omega) ?_|refine z_w (by omega) ?_|refine z_x (by omega) ?_|refine z_y (by omega) ?_|refine z_z (by omega) ?_|refine z_A ?_|refine z_B ?_|refine z_C ?_|refine z_D ?_|refine z_E ?_|refine z_F ?_|refine z_G ?_|refine z_H ?_|refine z_I ?_|refine z_J ?_|refine z_K (by omega) (by decide) ?_|refine z_L (by omega) (by decide) ?_|refine z_M (by omega) ?_|refine z_N (by omega) ?_|refine z_O (by omega) ?_|refine z_P ?_|refine z_Q ?_|refine z_R ?_|refine z_S ?_|refine z_T ?_|refine z_U (by decide) ?_|refine z_V (by decide) ?_)
  refine ln und55 ?_
  refine LoopP.inv1 (fun i w' => ∃ k : Nat, k ≤ ps.length ∧ i = .int .i64 k ∧ Blk w' gn 3 #[.int .i64 (bulkP (bulkT L) (ps.take k) : Nat)] ∧ Blk w' w.heap.size 58 (L.cells (.slice A ps.length cA) (.slice A' is.length cA')) ∧ Below w.heap.size w w') (fun i _ => ps.length - (intOf i).toNat)
    ⟨0, by omega, rfl, hN5, hL5, hb5⟩ ?_
  rintro _ w6 ⟨k, hk, rfl, hN6, hL6, hb6⟩ J hJ
  dsimp only [List.headD_cons, List.tail_cons]
  refine bi_lss_c (fun h => ?_) (fun h => ?_)
  · have hkp : k < ps.length := by omega
    obtain ⟨a, us, rfl, hus, hcell, hrd⟩ := rRow.at (keeps_Pairs _ _ _ _ hb6 hp) k hkp
    obtain ⟨rfl, hz1, hz2⟩ := pair_cells hrd
    have hsm := bulkP_le (bulkT L) (bulkT_le L) (ps.take k)
    (repeat with_reducible first|refine z_a ?_|refine z_b ?_|refine z_c ?_|refine z_d ?_|refine z_e ?_|refine z_f ?_|refine z_g ?_|refine z_h ?_|refine z_i ?_|refine z_j ?_|refine z_k ?_|refine z_l ?_|refine z_m (by omega) ?_|refine z_n (by omega) ?_|refine z_o (by omega) ?_|refine z_p (by omega) ?_|refine z_q (by omega) ?_|refine z_r (by omega) ?_|refine z_s (by omega) ?_|refine z_t (by omega) ?_|refine z_u (by omega) ?_|refine z_v (by omega) ?_|refine z_w (by omega) ?_|refine z_x (by omega) ?_|refine z_y (by omega) ?_|refine z_z (by omega) ?_|refine z_A ?_|refine z_B ?_|refine z_C ?_|refine z_D ?_|refine z_E ?_|refine z_F ?_|refine z_G ?_|refine z_H ?_|refine z_I ?_|refine z_J ?_|refine z_K (by omega) (by decide) ?_|refine z_L (by omega) (by decide) ?_|refine z_M (by omega) ?_|refine z_N (by omega) ?_|refine z_O (by omega) ?_|refine z_P ?_|refine z_Q ?_|refine z_R ?_|refine z_S ?_|refine z_T ?_|refine z_U (by decide) ?_|refine z_V (by decide) ?_)
    refine ix und55 sz64 (by omega) (by omega) ?_
    rw [Int.toNat_natCast]
    refine ldR agg64 hcell (by rw [sz64]; rfl) ?_
    refine al z64 ?_
    have hV0 : Blk (w6.alloc (.cells (Value.agg #[.string ⟨#[]⟩, .string ⟨#[]⟩]).cells 64)) w6.heap.size 64 #[.string ⟨#[]⟩, .string ⟨#[]⟩] := Blk.new w6 64 _
    have hav := (Below.refl w6.heap.size w6).alloc (Nat.le_refl _) (.cells (Value.agg #[.string ⟨#[]⟩, .string ⟨#[]⟩]).cells 64)
    refine stA hV0 (by exact sz64) (by rfl) (by simp [Value.oneCell']) ?_
    have hV := hV0.row #[.string ps[k].1, .string ps[k].2.1]
    have hb7 := below_setRow hav (Nat.le_refl _) #[.string ps[k].1, .string ps[k].2.1]
    rw [show [Value.string ps[k].1, .string ps[k].2.1].toArray = #[.string ps[k].1, .string ps[k].2.1] from rfl]
    generalize (w6.alloc (.cells (Value.agg #[.string ⟨#[]⟩, .string ⟨#[]⟩]).cells 64)).setRow w6.heap.size #[.string ps[k].1, .string ps[k].2.1] = w7 at *
    have hN7 := hN6.below' hb7
    have hL7 := hL6.below' hb7
    have hb7' := below_then hb6 hb7
    have hg6 := hN6.lt
    have v0 : w7.cell? ⟨w6.heap.size, 0, none⟩ = some (.string ps[k].1) := hV.cell 0
    (repeat with_reducible first | refine fd p0' (by decide) ?_| refine ld one9 v0 ?_|refine z_a ?_|refine z_b ?_|refine z_c ?_|refine z_d ?_|refine z_e ?_|refine z_f ?_|refine z_g ?_|refine z_h ?_|refine z_i ?_|refine z_j ?_|refine z_k ?_|refine z_l ?_|refine z_m (by omega) ?_|refine z_n (by omega) ?_|refine z_o (by omega) ?_|refine z_p (by omega) ?_|refine z_q (by omega) ?_|refine z_r (by omega) ?_|refine z_s (by omega) ?_|refine z_t (by omega) ?_|refine z_u (by omega) ?_|refine z_v (by omega) ?_|refine z_w (by omega) ?_|refine z_x (by omega) ?_|refine z_y (by omega) ?_|refine z_z (by omega) ?_|refine z_A ?_|refine z_B ?_|refine z_C ?_|refine z_D ?_|refine z_E ?_|refine z_F ?_|refine z_G ?_|refine z_H ?_|refine z_I ?_|refine z_J ?_|refine z_K (by omega) (by decide) ?_|refine z_L (by omega) (by decide) ?_|refine z_M (by omega) ?_|refine z_N (by omega) ?_|refine z_O (by omega) ?_|refine z_P ?_|refine z_Q ?_|refine z_R ?_|refine z_S ?_|refine z_T ?_|refine z_U (by decide) ?_|refine z_V (by decide) ?_)
    refine cvl call93 ?_
    refine (bulk1_spec gn _ _ w7 hN7 hsm).mono ?_
    rintro _ w8 ⟨hN8, hT8⟩
    have hL8 := hL7.turns hT8 (by omega)
    have hV8 := hV.turns hT8 (by omega)
    have hb8 := keepT hb7' hT8
    have v1 : w8.cell? ⟨w6.heap.size, 1, none⟩ = some (.string ps[k].2.1) := hV8.cell 1
    (repeat with_reducible first | refine fd p1' (by decide) ?_| refine ld one9 v1 ?_|refine z_a ?_|refine z_b ?_|refine z_c ?_|refine z_d ?_|refine z_e ?_|refine z_f ?_|refine z_g ?_|refine z_h ?_|refine z_i ?_|refine z_j ?_|refine z_k ?_|refine z_l ?_|refine z_m (by omega) ?_|refine z_n (by omega) ?_|refine z_o (by omega) ?_|refine z_p (by omega) ?_|refine z_q (by omega) ?_|refine z_r (by omega) ?_|refine z_s (by omega) ?_|refine z_t (by omega) ?_|refine z_u (by omega) ?_|refine z_v (by omega) ?_|refine z_w (by omega) ?_|refine z_x (by omega) ?_|refine z_y (by omega) ?_|refine z_z (by omega) ?_|refine z_A ?_|refine z_B ?_|refine z_C ?_|refine z_D ?_|refine z_E ?_|refine z_F ?_|refine z_G ?_|refine z_H ?_|refine z_I ?_|refine z_J ?_|refine z_K (by omega) (by decide) ?_|refine z_L (by omega) (by decide) ?_|refine z_M (by omega) ?_|refine z_N (by omega) ?_|refine z_O (by omega) ?_|refine z_P ?_|refine z_Q ?_|refine z_R ?_|refine z_S ?_|refine z_T ?_|refine z_U (by decide) ?_|refine z_V (by decide) ?_)
    refine cvl call93 ?_
    refine (bulk1_spec gn _ _ w8 hN8 (addB_le _ _ hsm)).mono ?_
    rintro _ w9 ⟨hN9, hT9⟩
    have hL9 := hL8.turns hT9 (by omega)
    have hb9 := keepT hb8 hT9
    (repeat with_reducible first|refine z_a ?_|refine z_b ?_|refine z_c ?_|refine z_d ?_|refine z_e ?_|refine z_f ?_|refine z_g ?_|refine z_h ?_|refine z_i ?_|refine z_j ?_|refine z_k ?_|refine z_l ?_|refine z_m (by omega) ?_|refine z_n (by omega) ?_|refine z_o (by omega) ?_|refine z_p (by omega) ?_|refine z_q (by omega) ?_|refine z_r (by omega) ?_|refine z_s (by omega) ?_|refine z_t (by omega) ?_|refine z_u (by omega) ?_|refine z_v (by omega) ?_|refine z_w (by omega) ?_|refine z_x (by omega) ?_|refine z_y (by omega) ?_|refine z_z (by omega) ?_|refine z_A ?_|refine z_B ?_|refine z_C ?_|refine z_D ?_|refine z_E ?_|refine z_F ?_|refine z_G ?_|refine z_H ?_|refine z_I ?_|refine z_J ?_|refine z_K (by omega) (by decide) ?_|refine z_L (by omega) (by decide) ?_|refine z_M (by omega) ?_|refine z_N (by omega) ?_|refine z_O (by omega) ?_|refine z_P ?_|refine z_Q ?_|refine z_R ?_|refine z_S ?_|refine z_T ?_|refine z_U (by decide) ?_|refine z_V (by decide) ?_)
    refine hJ _ _ ⟨k + 1, by omega, by simp, ?_, hL9, hb9⟩ (by simp [intOf]; omega)
    rw [bulkP, foldl_take_succ _ _ _ k hkp]
    exact hN9
  have hkp : k = ps.length := by omega
  subst hkp
  clear hJ
  rw [List.take_length] at hN6
  have c10 : w6.cell? ⟨w.heap.size, 10, none⟩ = some (.slice A' is.length cA') := hL6.cell 10
  (repeat with_reducible first | refine fd l10 (by decide) ?_| refine ld one56 c10 ?_|refine z_a ?_|refine z_b ?_|refine z_c ?_|refine z_d ?_|refine z_e ?_|refine z_f ?_|refine z_g ?_|refine z_h ?_|refine z_i ?_|refine z_j ?_|refine z_k ?_|refine z_l ?_|refine z_m (by omega) ?_|refine z_n (by omega) ?_|refine z_o (by omega) ?_|refine z_p (by omega) ?_|refine z_q (by omega) ?_|refine z_r (by omega) ?_|refine z_s (by omega) ?_|refine z_t (by omega) ?_|refine z_u (by omega) ?_|refine z_v (by omega) ?_|refine z_w (by omega) ?_|refine z_x (by omega) ?_|refine z_y (by omega) ?_|refine z_z (by omega) ?_|refine z_A ?_|refine z_B ?_|refine z_C ?_|refine z_D ?_|refine z_E ?_|refine z_F ?_|refine z_G ?_|refine z_H ?_|refine z_I ?_|refine z_J ?_|refine z_K (by omega) (by decide) ?_|refine z_L (by omega) (by decide) ?_|refine z_M (by omega) ?_|refine z_N (by omega) ?_|refine z_O (by omega) ?_|refine z_P ?_|refine z_Q ?_|refine z_R ?_|refine z_S ?_|refine z_T ?_|refine z_U (by decide) ?_|refine z_V (by decide) ?_)
  refine ln und56 ?_
  refine LoopP.inv1 (fun i w' => ∃ k : Nat, k ≤ is.length ∧ i = .int .i64 k ∧ Blk w' gn 3 #[.int .i64 (bulkI (bulkP (bulkT L) ps) (is.take k) : Nat)] ∧ Blk w' w.heap.size 58 (L.cells (.slice A ps.length cA) (.slice A' is.length cA')) ∧ Below w.heap.size w w') (fun i _ => is.length - (intOf i).toNat)
    ⟨0, by omega, rfl, hN6, hL6, hb6⟩ ?_
  rintro _ w7 ⟨k, hk, rfl, hN7, hL7, hb7⟩ J hJ
  dsimp only [List.headD_cons, List.tail_cons]
  refine bi_lss_c (fun h => ?_) (fun h => ?_)
  · have hkp : k < is.length := by omega
    obtain ⟨a, us, rfl, hus, hcell, hrd⟩ := rRow.at (keeps_Intents _ _ _ _ hb7 hq) k hkp
    obtain ⟨rfl, hz1⟩ := intent_cells hrd
    have hsm := bulkI_le _ (bulkP_le (bulkT L) (bulkT_le L) ps) (is.take k)
    (repeat with_reducible first|refine z_a ?_|refine z_b ?_|refine z_c ?_|refine z_d ?_|refine z_e ?_|refine z_f ?_|refine z_g ?_|refine z_h ?_|refine z_i ?_|refine z_j ?_|refine z_k ?_|refine z_l ?_|refine z_m (by omega) ?_|refine z_n (by omega) ?_|refine z_o (by omega) ?_|refine z_p (by omega) ?_|refine z_q (by omega) ?_|refine z_r (by omega) ?_|refine z_s (by omega) ?_|refine z_t (by omega) ?_|refine z_u (by omega) ?_|refine z_v (by omega) ?_|refine z_w (by omega) ?_|refine z_x (by omega) ?_|refine z_y (by omega) ?_|refine z_z (by omega) ?_|refine z_A ?_|refine z_B ?_|refine z_C ?_|refine z_D ?_|refine z_E ?_|refine z_F ?_|refine z_G ?_|refine z_H ?_|refine z_I ?_|refine z_J ?_|refine z_K (by omega) (by decide) ?_|refine z_L (by omega) (by decide) ?_|refine z_M (by omega) ?_|refine z_N (by omega) ?_|refine z_O (by omega) ?_|refine z_P ?_|refine z_Q ?_|refine z_R ?_|refine z_S ?_|refine z_T ?_|refine z_U (by decide) ?_|refine z_V (by decide) ?_)
    refine ix und56 sz68 (by omega) (by omega) ?_
    rw [Int.toNat_natCast]
    refine ldR agg68 hcell (by rw [sz68]; rfl) ?_
    refine al z68 ?_
    have hV0 : Blk (w7.alloc (.cells (Value.agg #[.string ⟨#[]⟩, .int .i64 0, .bool false]).cells 68)) w7.heap.size 68 #[.string ⟨#[]⟩, .int .i64 0, .bool false] := Blk.new w7 68 _
    have hav := (Below.refl w7.heap.size w7).alloc (Nat.le_refl _) (.cells (Value.agg #[.string ⟨#[]⟩, .int .i64 0, .bool false]).cells 68)
    refine stA hV0 (by exact sz68) (by rfl) (by simp [Value.oneCell']) ?_
    have hV := hV0.row #[.string is[k].1, .int .i64 is[k].2.1, .bool is[k].2.2.1]
    have hb8 := below_setRow hav (Nat.le_refl _) #[.string is[k].1, .int .i64 is[k].2.1, .bool is[k].2.2.1]
    rw [show [Value.string is[k].1, .int .i64 is[k].2.1, .bool is[k].2.2.1].toArray = #[.string is[k].1, .int .i64 is[k].2.1, .bool is[k].2.2.1] from rfl]
    generalize (w7.alloc (.cells (Value.agg #[.string ⟨#[]⟩, .int .i64 0, .bool false]).cells 68)).setRow w7.heap.size #[.string is[k].1, .int .i64 is[k].2.1, .bool is[k].2.2.1] = w8 at *
    have hN8 := hN7.below' hb8
    have hL8 := hL7.below' hb8
    have hb8' := below_then hb7 hb8
    have v0 : w8.cell? ⟨w7.heap.size, 0, none⟩ = some (.string is[k].1) := hV.cell 0
    (repeat with_reducible first | refine fd q0' (by decide) ?_| refine ld one9 v0 ?_|refine z_a ?_|refine z_b ?_|refine z_c ?_|refine z_d ?_|refine z_e ?_|refine z_f ?_|refine z_g ?_|refine z_h ?_|refine z_i ?_|refine z_j ?_|refine z_k ?_|refine z_l ?_|refine z_m (by omega) ?_|refine z_n (by omega) ?_|refine z_o (by omega) ?_|refine z_p (by omega) ?_|refine z_q (by omega) ?_|refine z_r (by omega) ?_|refine z_s (by omega) ?_|refine z_t (by omega) ?_|refine z_u (by omega) ?_|refine z_v (by omega) ?_|refine z_w (by omega) ?_|refine z_x (by omega) ?_|refine z_y (by omega) ?_|refine z_z (by omega) ?_|refine z_A ?_|refine z_B ?_|refine z_C ?_|refine z_D ?_|refine z_E ?_|refine z_F ?_|refine z_G ?_|refine z_H ?_|refine z_I ?_|refine z_J ?_|refine z_K (by omega) (by decide) ?_|refine z_L (by omega) (by decide) ?_|refine z_M (by omega) ?_|refine z_N (by omega) ?_|refine z_O (by omega) ?_|refine z_P ?_|refine z_Q ?_|refine z_R ?_|refine z_S ?_|refine z_T ?_|refine z_U (by decide) ?_|refine z_V (by decide) ?_)
    refine cvl call93 ?_
    refine (bulk1_spec gn _ _ w8 hN8 hsm).mono ?_
    rintro _ w9 ⟨hN9, hT9⟩
    have hL9 := hL8.turns hT9 (by omega)
    have hb9 := keepT hb8' hT9
    (repeat with_reducible first|refine z_a ?_|refine z_b ?_|refine z_c ?_|refine z_d ?_|refine z_e ?_|refine z_f ?_|refine z_g ?_|refine z_h ?_|refine z_i ?_|refine z_j ?_|refine z_k ?_|refine z_l ?_|refine z_m (by omega) ?_|refine z_n (by omega) ?_|refine z_o (by omega) ?_|refine z_p (by omega) ?_|refine z_q (by omega) ?_|refine z_r (by omega) ?_|refine z_s (by omega) ?_|refine z_t (by omega) ?_|refine z_u (by omega) ?_|refine z_v (by omega) ?_|refine z_w (by omega) ?_|refine z_x (by omega) ?_|refine z_y (by omega) ?_|refine z_z (by omega) ?_|refine z_A ?_|refine z_B ?_|refine z_C ?_|refine z_D ?_|refine z_E ?_|refine z_F ?_|refine z_G ?_|refine z_H ?_|refine z_I ?_|refine z_J ?_|refine z_K (by omega) (by decide) ?_|refine z_L (by omega) (by decide) ?_|refine z_M (by omega) ?_|refine z_N (by omega) ?_|refine z_O (by omega) ?_|refine z_P ?_|refine z_Q ?_|refine z_R ?_|refine z_S ?_|refine z_T ?_|refine z_U (by decide) ?_|refine z_V (by decide) ?_)
    refine hJ _ _ ⟨k + 1, by omega, by simp, ?_, hL9, hb9⟩ (by simp [intOf]; omega)
    rw [bulkI, foldl_take_succ _ _ _ k hkp]
    exact hN9
  have hkp : k = is.length := by omega
  subst hkp
  rw [List.take_length] at hN7
  have cN : w7.cell? ⟨gn, 0, none⟩ = some (.int .i64 (bulkI (bulkP (bulkT L) ps) is : Nat)) := hN7.cell 0
  (repeat with_reducible first | refine ld one3 cN ?_|refine z_a ?_|refine z_b ?_|refine z_c ?_|refine z_d ?_|refine z_e ?_|refine z_f ?_|refine z_g ?_|refine z_h ?_|refine z_i ?_|refine z_j ?_|refine z_k ?_|refine z_l ?_|refine z_m (by omega) ?_|refine z_n (by omega) ?_|refine z_o (by omega) ?_|refine z_p (by omega) ?_|refine z_q (by omega) ?_|refine z_r (by omega) ?_|refine z_s (by omega) ?_|refine z_t (by omega) ?_|refine z_u (by omega) ?_|refine z_v (by omega) ?_|refine z_w (by omega) ?_|refine z_x (by omega) ?_|refine z_y (by omega) ?_|refine z_z (by omega) ?_|refine z_A ?_|refine z_B ?_|refine z_C ?_|refine z_D ?_|refine z_E ?_|refine z_F ?_|refine z_G ?_|refine z_H ?_|refine z_I ?_|refine z_J ?_|refine z_K (by omega) (by decide) ?_|refine z_L (by omega) (by decide) ?_|refine z_M (by omega) ?_|refine z_N (by omega) ?_|refine z_O (by omega) ?_|refine z_P ?_|refine z_Q ?_|refine z_R ?_|refine z_S ?_|refine z_T ?_|refine z_U (by decide) ?_|refine z_V (by decide) ?_)
  exact ⟨rfl, hb7⟩
end Go.Proofs.Ythicbfopjakiiaa.E
