import Derived.Test.YtcfncjejpjjhdaaM1
import Derived.Test.YtcfncjejpjjhdaaProg
import Derived.KernelRfl
namespace Go.Proofs.Ytcfncjejpjjhdaa.E
open Go
set_option maxRecDepth 100000

/-- shelfmark/shelfmarklaw22.BoardKeeps -/
def S4 (a0 a1 : Value) (R : Value → World → Prop) (w : World) : Prop :=
  CallP Try.prog 7 #[] (fun v20 w =>
  LiftP Try.prog (Op.unary Go.UnOp.not v20) (fun v21 w =>
  CondP v21 (fun w =>
    R (Go.Value.bool false) w) (fun w =>
    CallP Try.prog 14 #[a0] (fun v23 w =>
  LiftP Try.prog (Op.unary Go.UnOp.not v23) (fun v24 w =>
  GuardP v24 false (fun K w => K a1 w) (fun v26 w =>
  GuardP v24 false (fun K w => NextP Try.prog (builtin Go.Builtin.len #[23] 3 #[false] #[v26]) K w) (fun v27 w =>
  GuardP v24 false (fun K w => LiftP Try.prog (binS Go.BinOp.gtr 3 (Go.Operand.tmp 27) (Go.Operand.const (Go.Value.int Go.IntKind.i64 50)) v27 (Go.Value.int Go.IntKind.i64 50)) K w) (fun v28 w =>
  PickP v24 (Go.Value.bool true) v28 (fun v29 w =>
  CondP v29 (fun w =>
    R (Go.Value.bool true) w) (fun w =>
    CallP Try.prog 9 #[] (fun v30 w =>
  LiftP Try.prog (Instr.build 42 #[]) (fun v31 w =>
  LiftP Try.prog (Instr.box 42 v31) (fun v32 w =>
  LiftP Try.prog (Instr.buildSlice 23 0 #[]) (fun v33 w =>
  NextP Try.prog (builtin Go.Builtin.append #[23, 23] 23 #[false, false] #[v33, a1]) (fun v35 w =>
  CallP Try.prog 10 #[v30, v35] (fun v38 w =>
  CallP Try.prog 15 #[v32, a1] (fun v41 w =>
  LoopP (fun J vs w =>   -- [8]
    NextP Try.prog (builtin Go.Builtin.len #[23] 3 #[false] #[v35]) (fun v44 w =>
    LiftP Try.prog (binS Go.BinOp.lss 3 (Go.Operand.tmp 42) (Go.Operand.tmp 44) (vs.headD undef) v44) (fun v45 w =>
    CondP v45 (fun w =>
      LiftP Try.prog (Instr.indexAt 23 v35 (vs.headD undef)) (fun v50 w =>
    LiftU Try.prog (Instr.storeAt 3 v50 (Go.Value.int Go.IntKind.i64 9)) (fun v_ w =>
    LiftP Try.prog (binS Go.BinOp.add 3 (Go.Operand.tmp 46) (Go.Operand.const (Go.Value.int Go.IntKind.i64 1)) (vs.headD undef) (Go.Value.int Go.IntKind.i64 1)) (fun v47 w =>
    J [v47] w) w) w) w) (fun w =>
      LoopP (fun J_1 vs_1 w =>   -- [9]
    NextP Try.prog (builtin Go.Builtin.len #[37] 3 #[false] #[a0]) (fun v53 w =>
    LiftP Try.prog (binS Go.BinOp.lss 3 (Go.Operand.tmp 51) (Go.Operand.tmp 53) (vs_1.headD undef) v53) (fun v54 w =>
    CondP v54 (fun w =>
      JoinP (fun J_2 w =>
      LiftP Try.prog (Instr.indexAt 37 a0 (vs_1.headD undef)) (fun v59 w =>
      LiftP Try.prog (Instr.fieldAt 44 v59 0) (fun v60 w =>
      LiftP Try.prog (Instr.loadAt 3 v60) (fun v61 w =>
      LiftP Try.prog (binS Go.BinOp.eql 3 (Go.Operand.tmp 61) (Go.Operand.const (Go.Value.int Go.IntKind.i64 1)) v61 (Go.Value.int Go.IntKind.i64 1)) (fun v63 w =>
      CondP v63 (fun w =>
        LiftP Try.prog (Instr.indexAt 37 a0 (vs_1.headD undef)) (fun v67 w =>
        LiftP Try.prog (Instr.fieldAt 44 v67 2) (fun v68 w =>
        LiftP Try.prog (Instr.loadAt 23 v68) (fun v69 w =>
        CallP Try.prog 10 #[v30, v69] (fun v70 w =>
        LiftP Try.prog (Instr.indexAt 37 a0 (vs_1.headD undef)) (fun v74 w =>
        LiftP Try.prog (Instr.fieldAt 44 v74 2) (fun v75 w =>
        LiftP Try.prog (Instr.loadAt 23 v75) (fun v76 w =>
        CallP Try.prog 15 #[v32, v76] (fun v77 w =>
        J_2 [] w) w) w) w) w) w) w) w) w) (fun w =>
        LiftP Try.prog (binS Go.BinOp.eql 3 (Go.Operand.tmp 61) (Go.Operand.const (Go.Value.int Go.IntKind.i64 2)) v61 (Go.Value.int Go.IntKind.i64 2)) (fun v79 w =>
        CondP v79 (fun w =>
          LiftP Try.prog (Instr.indexAt 37 a0 (vs_1.headD undef)) (fun v83 w =>
          LiftP Try.prog (Instr.fieldAt 44 v83 1) (fun v84 w =>
          LiftP Try.prog (Instr.loadAt 3 v84) (fun v85 w =>
          CallP Try.prog 16 #[v30, v85] (fun v86 w =>
          LiftP Try.prog (Instr.indexAt 37 a0 (vs_1.headD undef)) (fun v90 w =>
          LiftP Try.prog (Instr.fieldAt 44 v90 1) (fun v91 w =>
          LiftP Try.prog (Instr.loadAt 3 v91) (fun v92 w =>
          CallP Try.prog 17 #[v32, v92] (fun v93 w =>
          J_2 [] w) w) w) w) w) w) w) w) w) (fun w =>
          LiftP Try.prog (binS Go.BinOp.eql 3 (Go.Operand.tmp 61) (Go.Operand.const (Go.Value.int Go.IntKind.i64 3)) v61 (Go.Value.int Go.IntKind.i64 3)) (fun v95 w =>
          CondP v95 (fun w =>
            DrawP (fun S w =>
            YieldP Try.prog S (Instr.indexAt 37 a0 (vs_1.headD undef)) (fun v99 w =>
            YieldP Try.prog S (Instr.fieldAt 44 v99 1) (fun v100 w =>
            YieldP Try.prog S (Instr.loadAt 3 v100) (fun v101 w =>
            YieldP Try.prog S (Instr.indexAt 37 a0 (vs_1.headD undef)) (fun v104 w =>
            YieldP Try.prog S (Instr.fieldAt 44 v104 3) (fun v105 w =>
            YieldP Try.prog S (Instr.loadAt 32 v105) (fun v106 w =>
            CallP Try.prog 11 #[v30, v101, v106] (fun v107 w =>
            DrawP (fun S w =>
            YieldP Try.prog S (Instr.indexAt 37 a0 (vs_1.headD undef)) (fun v111 w =>
            YieldP Try.prog S (Instr.fieldAt 44 v111 1) (fun v112 w =>
            YieldP Try.prog S (Instr.loadAt 3 v112) (fun v113 w =>
            YieldP Try.prog S (Instr.indexAt 37 a0 (vs_1.headD undef)) (fun v116 w =>
            YieldP Try.prog S (Instr.fieldAt 44 v116 3) (fun v117 w =>
            YieldP Try.prog S (Instr.loadAt 32 v117) (fun v118 w =>
            CallP Try.prog 18 #[v32, v113, v118] (fun v119 w =>
            J_2 [] w) w) w) w) w) w) w) w) w) w) w) w) w) w) w) w) w) (fun w =>
            J_2 [] w) w) w) w) w) w) w) w) w) w) (fun vs_2 w =>   -- []
    LiftP Try.prog (binS Go.BinOp.add 3 (Go.Operand.tmp 55) (Go.Operand.const (Go.Value.int Go.IntKind.i64 1)) (vs_1.headD undef) (Go.Value.int Go.IntKind.i64 1)) (fun v56 w =>
    J_1 [v56] w) w) w) (fun w =>
      LoopP (fun J_3 vs_3 w =>   -- [10]
    LiftP Try.prog (binS Go.BinOp.lss 3 (Go.Operand.tmp 120) (Go.Operand.const (Go.Value.int Go.IntKind.i64 7)) (vs_3.headD undef) (Go.Value.int Go.IntKind.i64 7)) (fun v121 w =>
    CondP v121 (fun w =>
      CallP Try.prog 19 #[v30, (vs_3.headD undef)] (fun v127 w =>
    LiftP Try.prog (Instr.extract v127 0) (fun v128 w =>
    LiftP Try.prog (Instr.extract v127 1) (fun v129 w =>
    LiftP Try.prog (Instr.alloc 47 true (.tuple #[])) (fun v11 w =>
    LiftU Try.prog (Instr.storeAt 47 v11 v128) (fun v__1 w =>
    LoopP (fun J_4 vs_4 w =>   -- [13]
      LiftP Try.prog (Instr.fieldAt 47 v11 1) (fun v131 w =>
      LiftP Try.prog (Instr.loadAt 23 v131) (fun v132 w =>
      NextP Try.prog (builtin Go.Builtin.len #[23] 3 #[false] #[v132]) (fun v133 w =>
      LiftP Try.prog (binS Go.BinOp.lss 3 (Go.Operand.tmp 130) (Go.Operand.tmp 133) (vs_4.headD undef) v133) (fun v134 w =>
      CondP v134 (fun w =>
        LiftP Try.prog (Instr.fieldAt 47 v11 1) (fun v137 w =>
      LiftP Try.prog (Instr.loadAt 23 v137) (fun v138 w =>
      LiftP Try.prog (Instr.indexAt 23 v138 (vs_4.headD undef)) (fun v140 w =>
      LiftU Try.prog (Instr.storeAt 3 v140 (Go.Value.int Go.IntKind.i64 9)) (fun v__2 w =>
      LiftP Try.prog (binS Go.BinOp.add 3 (Go.Operand.tmp 135) (Go.Operand.const (Go.Value.int Go.IntKind.i64 1)) (vs_4.headD undef) (Go.Value.int Go.IntKind.i64 1)) (fun v136 w =>
      J_4 [v136] w) w) w) w) w) w) (fun w =>
        CallP Try.prog 20 #[v30, (vs_3.headD undef)] (fun v143 w =>
    LoopP (fun J_5 vs_5 w =>   -- [15]
      NextP Try.prog (builtin Go.Builtin.len #[22] 3 #[false] #[v143]) (fun v146 w =>
      LiftP Try.prog (binS Go.BinOp.lss 3 (Go.Operand.tmp 144) (Go.Operand.tmp 146) (vs_5.headD undef) v146) (fun v147 w =>
      CondP v147 (fun w =>
        LiftP Try.prog (Instr.indexAt 22 v143 (vs_5.headD undef)) (fun v152 w =>
      LiftP Try.prog (Instr.fieldAt 32 v152 0) (fun v153 w =>
      LiftU Try.prog (Instr.storeAt 9 v153 (Go.Value.string { data := #[33] })) (fun v__3 w =>
      LiftP Try.prog (binS Go.BinOp.add 3 (Go.Operand.tmp 148) (Go.Operand.const (Go.Value.int Go.IntKind.i64 1)) (vs_5.headD undef) (Go.Value.int Go.IntKind.i64 1)) (fun v149 w =>
      J_5 [v149] w) w) w) w) w) (fun w =>
        LiftP Try.prog (binS Go.BinOp.add 3 (Go.Operand.tmp 122) (Go.Operand.const (Go.Value.int Go.IntKind.i64 1)) (vs_3.headD undef) (Go.Value.int Go.IntKind.i64 1)) (fun v123 w =>
    J_3 [v123] w) w) w) w) w) [(Go.Value.int Go.IntKind.i64 0)] w) w) w) w) w) w) w) [(Go.Value.int Go.IntKind.i64 0)] w) w) w) w) w) w) (fun w =>
      CallP Try.prog 21 #[v30] (fun v155 w =>
  CallP Try.prog 22 #[v30] (fun v157 w =>
  LoopP (fun J_6 vs_6 w =>   -- [18]
    NextP Try.prog (builtin Go.Builtin.len #[51] 3 #[false] #[v155]) (fun v160 w =>
    LiftP Try.prog (binS Go.BinOp.lss 3 (Go.Operand.tmp 158) (Go.Operand.tmp 160) (vs_6.headD undef) v160) (fun v161 w =>
    CondP v161 (fun w =>
      LiftP Try.prog (Instr.indexAt 51 v155 (vs_6.headD undef)) (fun v166 w =>
    LiftP Try.prog (Instr.fieldAt 47 v166 0) (fun v167 w =>
    LiftU Try.prog (Instr.storeAt 3 v167 (Go.Value.int Go.IntKind.i64 9)) (fun v__4 w =>
    LiftP Try.prog (binS Go.BinOp.add 3 (Go.Operand.tmp 162) (Go.Operand.const (Go.Value.int Go.IntKind.i64 1)) (vs_6.headD undef) (Go.Value.int Go.IntKind.i64 1)) (fun v163 w =>
    J_6 [v163] w) w) w) w) w) (fun w =>
      LoopP (fun J_7 vs_7 w =>   -- [19]
    NextP Try.prog (builtin Go.Builtin.len #[23] 3 #[false] #[v157]) (fun v170 w =>
    LiftP Try.prog (binS Go.BinOp.lss 3 (Go.Operand.tmp 168) (Go.Operand.tmp 170) (vs_7.headD undef) v170) (fun v171 w =>
    CondP v171 (fun w =>
      LiftP Try.prog (Instr.indexAt 23 v157 (vs_7.headD undef)) (fun v176 w =>
    LiftU Try.prog (Instr.storeAt 3 v176 (Go.Value.int Go.IntKind.i64 9)) (fun v__5 w =>
    LiftP Try.prog (binS Go.BinOp.add 3 (Go.Operand.tmp 172) (Go.Operand.const (Go.Value.int Go.IntKind.i64 1)) (vs_7.headD undef) (Go.Value.int Go.IntKind.i64 1)) (fun v173 w =>
    J_7 [v173] w) w) w) w) (fun w =>
      CallP Try.prog 23 #[v30, v32] (fun v179 w =>
  R v179 w) w) w) w) w) [(Go.Value.int Go.IntKind.i64 0)] w) w) w) w) [(Go.Value.int Go.IntKind.i64 0)] w) w) w) w) w) [(Go.Value.int Go.IntKind.i64 1)] w) w) w) w) [(Go.Value.int Go.IntKind.i64 0)] w) w) w) w) [(Go.Value.int Go.IntKind.i64 0)] w) w) w) w) w) w) w) w) w) w) w) w) w) w) w) w) w) w
theorem S4.calls (a0 a1 : Value) (R : Value → World → Prop) (w : World) (h : S4 a0 a1 R w) : Calls Try.prog 4 #[a0, a1] w fun e w' => ∃ v, e = .returned v ∧ R v w' :=
  calls_of_tr (n := 180) (c := bodyOf Try.f4) (.two .leaf (.two (.two .leaf (.two (.two .leaf .leaf) .leaf)) (.two (.two .leaf (.two (.two .leaf .leaf) .leaf)) (.two .leaf (.two .leaf (.two .leaf (.two .leaf (.two (.two .leaf (.one (.loop [8] (.two (.two .leaf (.two .leaf .leaf)) (.two (.one .leaf) .leaf))))) (.two (.two .leaf (.one (.loop [9] (.two (.two .leaf (.two .leaf .leaf)) (.join [] (.one (.two .leaf (.one (.two .leaf (.two (.two .leaf .leaf) (.two .leaf (.two (.two .leaf .leaf) (.two .leaf (.two (.two (.drawL [(true, 0), (true, 1), (true, 2), (true, 3), (true, 4), (true, 5), (true, 6), (true, 7), (true, 8), (true, 9), (true, 10)] 11) (.drawL [(true, 0), (true, 1), (true, 2), (true, 3), (true, 4), (true, 5), (true, 6), (true, 7), (true, 8), (true, 9), (true, 10)] 11)) .leaf))))))))) .leaf))))) (.two (.two .leaf (.one (.loop [10] (.two (.two .leaf (.two .leaf .leaf)) (.two (.one (.two .leaf (.two (.two .leaf (.one (.loop [13] (.two (.two .leaf (.two .leaf .leaf)) (.two (.one .leaf) .leaf))))) (.two .leaf (.two .leaf (.one (.loop [15] (.two (.two .leaf (.two .leaf .leaf)) (.two (.one .leaf) .leaf))))))))) .leaf))))) (.two .leaf (.two (.two .leaf (.one (.loop [18] (.two (.two .leaf (.two .leaf .leaf)) (.two (.one .leaf) .leaf))))) (.two (.two .leaf (.one (.loop [19] (.two (.two .leaf (.two .leaf .leaf)) (.two (.one .leaf) .leaf))))) (.two .leaf .leaf)))))))))))))) Try.func4 (by kernel_rfl) Try.ntmps4 (by kernel_rfl) (by kernel_rfl) [a0, a1] (by kernel_rfl) (of_eq_ (by kernel_rfl) h)

/-- shelfmark/shelfmarklaw22.BoardPlays -/
def S5 (a0 : Value) (R : Value → World → Prop) (w : World) : Prop :=
  CallP Try.prog 7 #[] (fun v12 w =>
  LiftP Try.prog (Op.unary Go.UnOp.not v12) (fun v13 w =>
  CondP v13 (fun w =>
    R (Go.Value.bool false) w) (fun w =>
    CallP Try.prog 14 #[a0] (fun v15 w =>
  LiftP Try.prog (Op.unary Go.UnOp.not v15) (fun v16 w =>
  CondP v16 (fun w =>
    R (Go.Value.bool true) w) (fun w =>
    CallP Try.prog 9 #[] (fun v17 w =>
  LiftP Try.prog (Instr.build 42 #[]) (fun v18 w =>
  LiftP Try.prog (Instr.box 42 v18) (fun v19 w =>
  LoopP (fun J vs w =>   -- [3, 5]
    NextP Try.prog (builtin Go.Builtin.len #[37] 3 #[false] #[a0]) (fun v22 w =>
    LiftP Try.prog (binS Go.BinOp.lss 3 (Go.Operand.tmp 20) (Go.Operand.tmp 22) (vs.tail.headD undef) v22) (fun v23 w =>
    CondP v23 (fun w =>
      JoinP (fun J_1 w =>
      LiftP Try.prog (Instr.indexAt 37 a0 (vs.tail.headD undef)) (fun v28 w =>
      LiftP Try.prog (Instr.fieldAt 44 v28 0) (fun v29 w =>
      LiftP Try.prog (Instr.loadAt 3 v29) (fun v30 w =>
      LiftP Try.prog (binS Go.BinOp.eql 3 (Go.Operand.tmp 30) (Go.Operand.const (Go.Value.int Go.IntKind.i64 1)) v30 (Go.Value.int Go.IntKind.i64 1)) (fun v32 w =>
      CondP v32 (fun w =>
        LiftP Try.prog (Instr.indexAt 37 a0 (vs.tail.headD undef)) (fun v37 w =>
        LiftP Try.prog (Instr.fieldAt 44 v37 2) (fun v38 w =>
        LiftP Try.prog (Instr.loadAt 23 v38) (fun v39 w =>
        CallP Try.prog 10 #[(vs.headD undef), v39] (fun v40 w =>
        LiftP Try.prog (Instr.extract v40 0) (fun v41 w =>
        LiftP Try.prog (Instr.extract v40 1) (fun v42 w =>
        LiftP Try.prog (Instr.indexAt 37 a0 (vs.tail.headD undef)) (fun v47 w =>
        LiftP Try.prog (Instr.fieldAt 44 v47 2) (fun v48 w =>
        LiftP Try.prog (Instr.loadAt 23 v48) (fun v49 w =>
        CallP Try.prog 15 #[v19, v49] (fun v50 w =>
        LiftP Try.prog (Instr.extract v50 0) (fun v51 w =>
        LiftP Try.prog (Instr.extract v50 1) (fun v52 w =>
        LiftP Try.prog (binS Go.BinOp.neq 3 (Go.Operand.tmp 53) (Go.Operand.tmp 54) v41 v51) (fun v55 w =>
        GuardP v55 false (fun K w => K v42 w) (fun v57 w =>
        GuardP v55 false (fun K w => K v52 w) (fun v58 w =>
        GuardP v55 false (fun K w => LiftP Try.prog (binS Go.BinOp.neq 28 (Go.Operand.tmp 57) (Go.Operand.tmp 58) v57 v58) K w) (fun v59 w =>
        PickP v55 (Go.Value.bool true) v59 (fun v60 w =>
        CondP v60 (fun w =>
          R (Go.Value.bool false) w) (fun w =>
          J_1 [(vs.headD undef)] w) w) w) w) w) w) w) w) w) w) w) w) w) w) w) w) w) w) w) (fun w =>
        LiftP Try.prog (binS Go.BinOp.eql 3 (Go.Operand.tmp 30) (Go.Operand.const (Go.Value.int Go.IntKind.i64 2)) v30 (Go.Value.int Go.IntKind.i64 2)) (fun v62 w =>
        CondP v62 (fun w =>
          DrawP (fun S w =>
          YieldP Try.prog S (Instr.indexAt 37 a0 (vs.tail.headD undef)) (fun v66 w =>
          YieldP Try.prog S (Instr.fieldAt 44 v66 1) (fun v67 w =>
          YieldP Try.prog S (Instr.loadAt 3 v67) (fun v68 w =>
          YieldP Try.prog S (Instr.indexAt 37 a0 (vs.tail.headD undef)) (fun v73 w =>
          YieldP Try.prog S (Instr.fieldAt 44 v73 1) (fun v74 w =>
          YieldP Try.prog S (Instr.loadAt 3 v74) (fun v75 w =>
          ActP S (fun K w => CallP Try.prog 16 #[(vs.headD undef), v68] K w) (fun S v69 w =>
          ActP S (fun K w => CallP Try.prog 17 #[v19, v75] K w) (fun S v76 w =>
          YieldP Try.prog S (binS Go.BinOp.neq 28 (Go.Operand.tmp 69) (Go.Operand.tmp 76) v69 v76) (fun v77 w =>
          CondP v77 (fun w =>
            R (Go.Value.bool false) w) (fun w =>
            J_1 [(vs.headD undef)] w) w) w) w) w) w) w) w) w) w) w) w) (fun w =>
          LiftP Try.prog (binS Go.BinOp.eql 3 (Go.Operand.tmp 30) (Go.Operand.const (Go.Value.int Go.IntKind.i64 3)) v30 (Go.Value.int Go.IntKind.i64 3)) (fun v79 w =>
          CondP v79 (fun w =>
            DrawP (fun S w =>
            YieldP Try.prog S (Instr.indexAt 37 a0 (vs.tail.headD undef)) (fun v83 w =>
            YieldP Try.prog S (Instr.fieldAt 44 v83 1) (fun v84 w =>
            YieldP Try.prog S (Instr.loadAt 3 v84) (fun v85 w =>
            YieldP Try.prog S (Instr.indexAt 37 a0 (vs.tail.headD undef)) (fun v88 w =>
            YieldP Try.prog S (Instr.fieldAt 44 v88 3) (fun v89 w =>
            YieldP Try.prog S (Instr.loadAt 32 v89) (fun v90 w =>
            YieldP Try.prog S (Instr.indexAt 37 a0 (vs.tail.headD undef)) (fun v95 w =>
            YieldP Try.prog S (Instr.fieldAt 44 v95 1) (fun v96 w =>
            YieldP Try.prog S (Instr.loadAt 3 v96) (fun v97 w =>
            YieldP Try.prog S (Instr.indexAt 37 a0 (vs.tail.headD undef)) (fun v100 w =>
            YieldP Try.prog S (Instr.fieldAt 44 v100 3) (fun v101 w =>
            YieldP Try.prog S (Instr.loadAt 32 v101) (fun v102 w =>
            ActP S (fun K w => CallP Try.prog 11 #[(vs.headD undef), v85, v90] K w) (fun S v91 w =>
            ActP S (fun K w => CallP Try.prog 18 #[v19, v97, v102] K w) (fun S v103 w =>
            YieldP Try.prog S (binS Go.BinOp.neq 4 (Go.Operand.tmp 91) (Go.Operand.tmp 103) v91 v103) (fun v104 w =>
            CondP v104 (fun w =>
              R (Go.Value.bool false) w) (fun w =>
              J_1 [(vs.headD undef)] w) w) w) w) w) w) w) w) w) w) w) w) w) w) w) w) w) w) (fun w =>
            LiftP Try.prog (binS Go.BinOp.eql 3 (Go.Operand.tmp 30) (Go.Operand.const (Go.Value.int Go.IntKind.i64 4)) v30 (Go.Value.int Go.IntKind.i64 4)) (fun v106 w =>
            CondP v106 (fun w =>
              CallP Try.prog 25 #[(vs.headD undef)] (fun v109 w =>
              CallP Try.prog 24 #[v109] (fun v110 w =>
              LiftP Try.prog (Instr.extract v110 0) (fun v111 w =>
              LiftP Try.prog (Instr.extract v110 1) (fun v112 w =>
              LiftP Try.prog (binS Go.BinOp.eql 26 (Go.Operand.tmp 113) (Go.Operand.const (Go.Value.pointer none)) v111 (Go.Value.pointer none)) (fun v114 w =>
              GuardP v114 false (fun K w => K v112 w) (fun v116 w =>
              GuardP v114 false (fun K w => LiftP Try.prog (binS Go.BinOp.neq 28 (Go.Operand.tmp 116) (Go.Operand.const (Go.Value.int Go.IntKind.i64 0)) v116 (Go.Value.int Go.IntKind.i64 0)) K w) (fun v117 w =>
              PickP v114 (Go.Value.bool true) v117 (fun v118 w =>
              GuardP v118 false (fun K w => K v111 w) (fun v120 w =>
              GuardP v118 false (fun K w => CallP Try.prog 25 #[v120] K w) (fun v121 w =>
              GuardP v118 false (fun K w => K (vs.headD undef) w) (fun v122 w =>
              GuardP v118 false (fun K w => CallP Try.prog 25 #[v122] K w) (fun v123 w =>
              GuardP v118 false (fun K w => LiftP Try.prog (binS Go.BinOp.neq 9 (Go.Operand.tmp 121) (Go.Operand.tmp 123) v121 v123) K w) (fun v124 w =>
              PickP v118 (Go.Value.bool true) v124 (fun v125 w =>
              CondP v125 (fun w =>
                R (Go.Value.bool false) w) (fun w =>
                J_1 [v111] w) w) w) w) w) w) w) w) w) w) w) w) w) w) w) w) (fun w =>
              J_1 [(vs.headD undef)] w) w) w) w) w) w) w) w) w) w) w) w) (fun vs_1 w =>   -- [3]
    CallP Try.prog 23 #[(vs_1.headD undef), v19] (fun v129 w =>
    LiftP Try.prog (Op.unary Go.UnOp.not v129) (fun v130 w =>
    CondP v130 (fun w =>
      R (Go.Value.bool false) w) (fun w =>
      LiftP Try.prog (binS Go.BinOp.add 3 (Go.Operand.tmp 24) (Go.Operand.const (Go.Value.int Go.IntKind.i64 1)) (vs.tail.headD undef) (Go.Value.int Go.IntKind.i64 1)) (fun v25 w =>
    J [(vs_1.headD undef), v25] w) w) w) w) w) w) (fun w =>
      R (Go.Value.bool true) w) w) w) w) [v17, (Go.Value.int Go.IntKind.i64 0)] w) w) w) w) w) w) w) w) w) w
theorem S5.calls (a0 : Value) (R : Value → World → Prop) (w : World) (h : S5 a0 R w) : Calls Try.prog 5 #[a0] w fun e w' => ∃ v, e = .returned v ∧ R v w' :=
  calls_of_tr (n := 131) (c := bodyOf Try.f5) (.two .leaf (.two (.two .leaf (.two (.two .leaf .leaf) .leaf)) (.two (.two .leaf (.two (.two .leaf .leaf) .leaf)) (.two .leaf (.two (.two .leaf (.one (.loop [3, 5] (.two (.two .leaf (.two .leaf .leaf)) (.two (.one (.join [3] (.two .leaf (.one (.two .leaf (.two (.two .leaf (.two .leaf (.two .leaf (.two (.two .leaf .leaf) .leaf)))) (.two .leaf (.two (.two (.draw [(true, 0), (true, 1), (true, 2), (true, 3), (true, 4), (true, 5), (true, 7), (true, 8), (true, 9), (true, 10), (true, 11), (true, 12), (false, 6), (false, 13), (true, 14)]) (.two (.two .leaf .leaf) .leaf)) (.two .leaf (.two (.two (.draw [(true, 0), (true, 1), (true, 2), (true, 3), (true, 4), (true, 5), (true, 6), (true, 7), (true, 8), (true, 9), (true, 10), (true, 12), (true, 13), (true, 14), (true, 15), (true, 16), (true, 17), (true, 18), (true, 19), (true, 20), (true, 21), (true, 22), (false, 11), (false, 23), (true, 24)]) (.two (.two .leaf .leaf) .leaf)) (.two .leaf (.two (.two .leaf (.two (.two .leaf (.two (.two .leaf .leaf) .leaf)) .leaf)) .leaf)))))))))) (.two .leaf (.two (.two .leaf .leaf) .leaf)))) .leaf))))) (.two .leaf .leaf)))))) Try.func5 (by kernel_rfl) Try.ntmps5 (by kernel_rfl) (by kernel_rfl) [a0] (by kernel_rfl) (of_eq_ (by kernel_rfl) h)

/-- shelfmark/shelfmarklaw22.BoardLoads -/
def S6 (a0 a1 a2 : Value) (R : Value → World → Prop) (w : World) : Prop :=
  CallP Try.prog 7 #[] (fun v14 w =>
  LiftP Try.prog (Op.unary Go.UnOp.not v14) (fun v15 w =>
  CondP v15 (fun w =>
    R (Go.Value.bool false) w) (fun w =>
    CallP Try.prog 14 #[a0] (fun v17 w =>
  LiftP Try.prog (Op.unary Go.UnOp.not v17) (fun v18 w =>
  GuardP v18 false (fun K w => K a1 w) (fun v20 w =>
  GuardP v18 false (fun K w => CallP Try.prog 14 #[v20] K w) (fun v21 w =>
  GuardP v18 false (fun K w => LiftP Try.prog (Op.unary Go.UnOp.not v21) K w) (fun v22 w =>
  PickP v18 (Go.Value.bool true) v22 (fun v23 w =>
  GuardP v23 false (fun K w => K a2 w) (fun v25 w =>
  GuardP v23 false (fun K w => NextP Try.prog (builtin Go.Builtin.len #[9] 3 #[false] #[v25]) K w) (fun v26 w =>
  GuardP v23 false (fun K w => LiftP Try.prog (binS Go.BinOp.gtr 3 (Go.Operand.tmp 26) (Go.Operand.const (Go.Value.int Go.IntKind.i64 2000)) v26 (Go.Value.int Go.IntKind.i64 2000)) K w) (fun v27 w =>
  PickP v23 (Go.Value.bool true) v27 (fun v28 w =>
  CondP v28 (fun w =>
    R (Go.Value.bool true) w) (fun w =>
    CallP Try.prog 24 #[a2] (fun v31 w =>
  LiftP Try.prog (Instr.extract v31 0) (fun v32 w =>
  LiftP Try.prog (Instr.extract v31 1) (fun v33 w =>
  LiftP Try.prog (binS Go.BinOp.neq 28 (Go.Operand.tmp 34) (Go.Operand.const (Go.Value.int Go.IntKind.i64 0)) v33 (Go.Value.int Go.IntKind.i64 0)) (fun v35 w =>
  GuardP v35 true (fun K w => K v32 w) (fun v37 w =>
  GuardP v35 true (fun K w => LiftP Try.prog (binS Go.BinOp.neq 26 (Go.Operand.tmp 37) (Go.Operand.const (Go.Value.pointer none)) v37 (Go.Value.pointer none)) K w) (fun v38 w =>
  GuardP v35 true (fun K w => K v38 w) (fun v39 w =>
  GuardP v39 false (fun K w => K v33 w) (fun v40 w =>
  GuardP v39 false (fun K w => LiftP Try.prog (binS Go.BinOp.neq 28 (Go.Operand.tmp 40) (Go.Operand.const (Go.Value.int Go.IntKind.i64 3)) v40 (Go.Value.int Go.IntKind.i64 3)) K w) (fun v41 w =>
  GuardP v35 true (fun K w => PickP v39 (Go.Value.bool true) v41 K w) (fun v42 w =>
  PickP v35 v42 (Go.Value.bool false) (fun v43 w =>
  GuardP v43 false (fun K w => K v33 w) (fun v45 w =>
  GuardP v43 false (fun K w => LiftP Try.prog (binS Go.BinOp.eql 28 (Go.Operand.tmp 45) (Go.Operand.const (Go.Value.int Go.IntKind.i64 0)) v45 (Go.Value.int Go.IntKind.i64 0)) K w) (fun v46 w =>
  GuardP v43 false (fun K w => K v46 w) (fun v47 w =>
  GuardP v47 true (fun K w => K v32 w) (fun v48 w =>
  GuardP v47 true (fun K w => LiftP Try.prog (binS Go.BinOp.eql 26 (Go.Operand.tmp 48) (Go.Operand.const (Go.Value.pointer none)) v48 (Go.Value.pointer none)) K w) (fun v49 w =>
  GuardP v47 true (fun K w => K v49 w) (fun v50 w =>
  GuardP v50 false (fun K w => K v32 w) (fun v51 w =>
  GuardP v50 false (fun K w => CallP Try.prog 25 #[v51] K w) (fun v52 w =>
  GuardP v50 false (fun K w => K a2 w) (fun v53 w =>
  GuardP v50 false (fun K w => LiftP Try.prog (binS Go.BinOp.neq 9 (Go.Operand.tmp 52) (Go.Operand.tmp 53) v52 v53) K w) (fun v54 w =>
  GuardP v47 true (fun K w => PickP v50 (Go.Value.bool true) v54 K w) (fun v55 w =>
  GuardP v43 false (fun K w => PickP v47 v55 (Go.Value.bool false) K w) (fun v56 w =>
  PickP v43 (Go.Value.bool true) v56 (fun v57 w =>
  CondP v57 (fun w =>
    R (Go.Value.bool false) w) (fun w =>
    LiftP Try.prog (Instr.alloc 59 true (.tuple #[])) (fun v9 w =>
  LiftP Try.prog (Instr.alloc 60 true (.tuple #[])) (fun v10 w =>
  LoopP (fun J vs w =>   -- [11]
    LiftP Try.prog (binS Go.BinOp.lss 3 (Go.Operand.tmp 58) (Go.Operand.const (Go.Value.int Go.IntKind.i64 2)) (vs.headD undef) (Go.Value.int Go.IntKind.i64 2)) (fun v59 w =>
    CondP v59 (fun w =>
      CallP Try.prog 9 #[] (fun v63 w =>
    LiftP Try.prog (Instr.indexAt 59 v9 (vs.headD undef)) (fun v64 w =>
    LiftU Try.prog (Instr.storeAt 26 v64 v63) (fun v_ w =>
    LiftP Try.prog (Instr.build 42 #[]) (fun v66 w =>
    LiftP Try.prog (Instr.box 42 v66) (fun v67 w =>
    LiftP Try.prog (Instr.indexAt 60 v10 (vs.headD undef)) (fun v68 w =>
    LiftU Try.prog (Instr.storeAt 39 v68 v67) (fun v__1 w =>
    JoinP (fun J_1 w =>
      LiftP Try.prog (binS Go.BinOp.eql 3 (Go.Operand.tmp 70) (Go.Operand.const (Go.Value.int Go.IntKind.i64 1)) (vs.headD undef) (Go.Value.int Go.IntKind.i64 1)) (fun v71 w =>
      CondP v71 (fun w =>
        J_1 [a1] w) (fun w =>
        J_1 [a0] w) w) w) (fun vs_1 w =>   -- [12]
    LoopP (fun J_2 vs_2 w =>   -- [13]
      NextP Try.prog (builtin Go.Builtin.len #[37] 3 #[false] #[(vs_1.headD undef)]) (fun v75 w =>
      LiftP Try.prog (binS Go.BinOp.lss 3 (Go.Operand.tmp 73) (Go.Operand.tmp 75) (vs_2.headD undef) v75) (fun v76 w =>
      CondP v76 (fun w =>
        JoinP (fun J_3 w =>
        LiftP Try.prog (Instr.indexAt 37 (vs_1.headD undef) (vs_2.headD undef)) (fun v81 w =>
        LiftP Try.prog (Instr.fieldAt 44 v81 0) (fun v82 w =>
        LiftP Try.prog (Instr.loadAt 3 v82) (fun v83 w =>
        LiftP Try.prog (binS Go.BinOp.eql 3 (Go.Operand.tmp 83) (Go.Operand.const (Go.Value.int Go.IntKind.i64 1)) v83 (Go.Value.int Go.IntKind.i64 1)) (fun v85 w =>
        CondP v85 (fun w =>
          DrawP (fun S w =>
          YieldP Try.prog S (Instr.indexAt 59 v9 (vs.headD undef)) (fun v87 w =>
          YieldP Try.prog S (Instr.loadAt 26 v87) (fun v88 w =>
          YieldP Try.prog S (Instr.indexAt 37 (vs_1.headD undef) (vs_2.headD undef)) (fun v91 w =>
          YieldP Try.prog S (Instr.fieldAt 44 v91 2) (fun v92 w =>
          YieldP Try.prog S (Instr.loadAt 23 v92) (fun v93 w =>
          CallP Try.prog 10 #[v88, v93] (fun v94 w =>
          DrawP (fun S w =>
          YieldP Try.prog S (Instr.indexAt 60 v10 (vs.headD undef)) (fun v96 w =>
          YieldP Try.prog S (Instr.loadAt 39 v96) (fun v97 w =>
          YieldP Try.prog S (Instr.indexAt 37 (vs_1.headD undef) (vs_2.headD undef)) (fun v100 w =>
          YieldP Try.prog S (Instr.fieldAt 44 v100 2) (fun v101 w =>
          YieldP Try.prog S (Instr.loadAt 23 v101) (fun v102 w =>
          CallP Try.prog 15 #[v97, v102] (fun v103 w =>
          J_3 [] w) w) w) w) w) w) w) w) w) w) w) w) w) w) w) (fun w =>
          LiftP Try.prog (binS Go.BinOp.eql 3 (Go.Operand.tmp 83) (Go.Operand.const (Go.Value.int Go.IntKind.i64 2)) v83 (Go.Value.int Go.IntKind.i64 2)) (fun v105 w =>
          CondP v105 (fun w =>
            DrawP (fun S w =>
            YieldP Try.prog S (Instr.indexAt 59 v9 (vs.headD undef)) (fun v107 w =>
            YieldP Try.prog S (Instr.loadAt 26 v107) (fun v108 w =>
            YieldP Try.prog S (Instr.indexAt 37 (vs_1.headD undef) (vs_2.headD undef)) (fun v111 w =>
            YieldP Try.prog S (Instr.fieldAt 44 v111 1) (fun v112 w =>
            YieldP Try.prog S (Instr.loadAt 3 v112) (fun v113 w =>
            CallP Try.prog 16 #[v108, v113] (fun v114 w =>
            DrawP (fun S w =>
            YieldP Try.prog S (Instr.indexAt 60 v10 (vs.headD undef)) (fun v116 w =>
            YieldP Try.prog S (Instr.loadAt 39 v116) (fun v117 w =>
            YieldP Try.prog S (Instr.indexAt 37 (vs_1.headD undef) (vs_2.headD undef)) (fun v120 w =>
            YieldP Try.prog S (Instr.fieldAt 44 v120 1) (fun v121 w =>
            YieldP Try.prog S (Instr.loadAt 3 v121) (fun v122 w =>
            CallP Try.prog 17 #[v117, v122] (fun v123 w =>
            J_3 [] w) w) w) w) w) w) w) w) w) w) w) w) w) w) w) (fun w =>
            LiftP Try.prog (binS Go.BinOp.eql 3 (Go.Operand.tmp 83) (Go.Operand.const (Go.Value.int Go.IntKind.i64 3)) v83 (Go.Value.int Go.IntKind.i64 3)) (fun v125 w =>
            CondP v125 (fun w =>
              DrawP (fun S w =>
              YieldP Try.prog S (Instr.indexAt 59 v9 (vs.headD undef)) (fun v127 w =>
              YieldP Try.prog S (Instr.loadAt 26 v127) (fun v128 w =>
              YieldP Try.prog S (Instr.indexAt 37 (vs_1.headD undef) (vs_2.headD undef)) (fun v131 w =>
              YieldP Try.prog S (Instr.fieldAt 44 v131 1) (fun v132 w =>
              YieldP Try.prog S (Instr.loadAt 3 v132) (fun v133 w =>
              YieldP Try.prog S (Instr.indexAt 37 (vs_1.headD undef) (vs_2.headD undef)) (fun v136 w =>
              YieldP Try.prog S (Instr.fieldAt 44 v136 3) (fun v137 w =>
              YieldP Try.prog S (Instr.loadAt 32 v137) (fun v138 w =>
              CallP Try.prog 11 #[v128, v133, v138] (fun v139 w =>
              DrawP (fun S w =>
              YieldP Try.prog S (Instr.indexAt 60 v10 (vs.headD undef)) (fun v141 w =>
              YieldP Try.prog S (Instr.loadAt 39 v141) (fun v142 w =>
              YieldP Try.prog S (Instr.indexAt 37 (vs_1.headD undef) (vs_2.headD undef)) (fun v145 w =>
              YieldP Try.prog S (Instr.fieldAt 44 v145 1) (fun v146 w =>
              YieldP Try.prog S (Instr.loadAt 3 v146) (fun v147 w =>
              YieldP Try.prog S (Instr.indexAt 37 (vs_1.headD undef) (vs_2.headD undef)) (fun v150 w =>
              YieldP Try.prog S (Instr.fieldAt 44 v150 3) (fun v151 w =>
              YieldP Try.prog S (Instr.loadAt 32 v151) (fun v152 w =>
              CallP Try.prog 18 #[v142, v147, v152] (fun v153 w =>
              J_3 [] w) w) w) w) w) w) w) w) w) w) w) w) w) w) w) w) w) w) w) w) w) (fun w =>
              J_3 [] w) w) w) w) w) w) w) w) w) w) (fun vs_3 w =>   -- []
      LiftP Try.prog (binS Go.BinOp.add 3 (Go.Operand.tmp 77) (Go.Operand.const (Go.Value.int Go.IntKind.i64 1)) (vs_2.headD undef) (Go.Value.int Go.IntKind.i64 1)) (fun v78 w =>
      J_2 [v78] w) w) w) (fun w =>
        LiftP Try.prog (binS Go.BinOp.add 3 (Go.Operand.tmp 60) (Go.Operand.const (Go.Value.int Go.IntKind.i64 1)) (vs.headD undef) (Go.Value.int Go.IntKind.i64 1)) (fun v61 w =>
    J [v61] w) w) w) w) w) [(Go.Value.int Go.IntKind.i64 0)] w) w) w) w) w) w) w) w) w) (fun w =>
      DrawP (fun S w =>
  YieldP Try.prog S (Instr.indexAt 59 v9 (Go.Value.int Go.IntKind.i64 0)) (fun v154 w =>
  YieldP Try.prog S (Instr.loadAt 26 v154) (fun v155 w =>
  YieldP Try.prog S (Instr.indexAt 59 v9 (Go.Value.int Go.IntKind.i64 1)) (fun v157 w =>
  YieldP Try.prog S (Instr.loadAt 26 v157) (fun v158 w =>
  YieldP Try.prog S (Instr.indexAt 59 v9 (Go.Value.int Go.IntKind.i64 0)) (fun v161 w =>
  YieldP Try.prog S (Instr.loadAt 26 v161) (fun v162 w =>
  YieldP Try.prog S (Instr.indexAt 60 v10 (Go.Value.int Go.IntKind.i64 1)) (fun v163 w =>
  YieldP Try.prog S (Instr.loadAt 39 v163) (fun v164 w =>
  ActP S (fun K w => CallP Try.prog 25 #[v155] K w) (fun S v156 w =>
  ActP S (fun K w => CallP Try.prog 25 #[v158] K w) (fun S v159 w =>
  YieldP Try.prog S (binS Go.BinOp.eql 9 (Go.Operand.tmp 156) (Go.Operand.tmp 159) v156 v159) (fun v160 w =>
  ActP S (fun K w => CallP Try.prog 23 #[v162, v164] K w) (fun S v165 w =>
  GuardP v165 true (fun K w => YieldP Try.prog S (Instr.indexAt 59 v9 (Go.Value.int Go.IntKind.i64 1)) K w) (fun v167 w =>
  GuardP v165 true (fun K w => YieldP Try.prog S (Instr.loadAt 26 v167) K w) (fun v168 w =>
  GuardP v165 true (fun K w => YieldP Try.prog S (Instr.indexAt 60 v10 (Go.Value.int Go.IntKind.i64 0)) K w) (fun v169 w =>
  GuardP v165 true (fun K w => YieldP Try.prog S (Instr.loadAt 39 v169) K w) (fun v170 w =>
  GuardA v165 true S (fun K w => CallP Try.prog 23 #[v168, v170] K w) (fun S v171 w =>
  PickP v165 v171 (Go.Value.bool false) (fun v172 w =>
  YieldP Try.prog S (binS Go.BinOp.eql 4 (Go.Operand.tmp 160) (Go.Operand.tmp 172) v160 v172) (fun v173 w =>
  R v173 w) w) w) w) w) w) w) w) w) w) w) w) w) w) w) w) w) w) w) w) w) w) w) [(Go.Value.int Go.IntKind.i64 0)] w) w) w) w) w) w) w) w) w) w) w) w) w) w) w) w) w) w) w) w) w) w) w) w) w) w) w) w) w) w) w) w) w) w) w) w) w) w) w) w) w) w
theorem S6.calls (a0 a1 a2 : Value) (R : Value → World → Prop) (w : World) (h : S6 a0 a1 a2 R w) : Calls Try.prog 6 #[a0, a1, a2] w fun e w' => ∃ v, e = .returned v ∧ R v w' :=
  calls_of_tr (n := 174) (c := bodyOf Try.f6) (.two .leaf (.two (.two .leaf (.two (.two .leaf .leaf) .leaf)) (.two (.two .leaf (.two (.two .leaf .leaf) .leaf)) (.two .leaf (.two (.two .leaf (.two (.two .leaf .leaf) .leaf)) (.two .leaf (.two .leaf (.two (.two .leaf (.one (.loop [11] (.two (.two .leaf (.two .leaf .leaf)) (.two (.one (.two .leaf (.two .leaf (.two .leaf (.join [12] (.two .leaf (.two .leaf .leaf)) (.two .leaf (.one (.loop [13] (.two (.two .leaf (.two .leaf .leaf)) (.join [] (.one (.two .leaf (.one (.two .leaf (.two (.two (.drawL [(true, 0), (true, 1), (true, 2), (true, 3), (true, 4), (true, 5), (true, 6), (true, 7)] 8) (.drawL [(true, 0), (true, 1), (true, 2), (true, 3), (true, 4), (true, 5), (true, 6), (true, 7)] 8)) (.two .leaf (.two (.two (.drawL [(true, 0), (true, 1), (true, 2), (true, 3), (true, 4), (true, 5), (true, 6), (true, 7)] 8) (.drawL [(true, 0), (true, 1), (true, 2), (true, 3), (true, 4), (true, 5), (true, 6), (true, 7)] 8)) (.two .leaf (.two (.two (.drawL [(true, 0), (true, 1), (true, 2), (true, 3), (true, 4), (true, 5), (true, 6), (true, 7), (true, 8), (true, 9), (true, 10), (true, 11), (true, 12)] 13) (.drawL [(true, 0), (true, 1), (true, 2), (true, 3), (true, 4), (true, 5), (true, 6), (true, 7), (true, 8), (true, 9), (true, 10), (true, 11), (true, 12)] 13)) .leaf))))))))) .leaf)))))))))) .leaf))))) (.two (.draw [(true, 0), (true, 1), (true, 3), (true, 4), (true, 7), (true, 8), (true, 9), (true, 10), (false, 2), (false, 5), (true, 6), (false, 11), (true, 12), (true, 13), (true, 14), (true, 15), (true, 16), (false, 17), (true, 18), (true, 19), (true, 20)]) .leaf))))))))) Try.func6 (by kernel_rfl) Try.ntmps6 (by kernel_rfl) (by kernel_rfl) [a0, a1, a2] (by kernel_rfl) (of_eq_ (by kernel_rfl) h)

/-- shelfmark/shelfmarklaw22.awake -/
def S7 (R : Value → World → Prop) (w : World) : Prop :=
  CallP Try.prog 9 #[] (fun v7 w =>
  LiftP Try.prog (binS Go.BinOp.eql 26 (Go.Operand.tmp 8) (Go.Operand.const (Go.Value.pointer none)) v7 (Go.Value.pointer none)) (fun v9 w =>
  CondP v9 (fun w =>
    R (Go.Value.bool false) w) (fun w =>
    LiftP Try.prog (Instr.buildSlice 23 1 #[(0, (Go.Value.int Go.IntKind.i64 0))]) (fun v12 w =>
  CallP Try.prog 10 #[v7, v12] (fun v13 w =>
  LiftP Try.prog (Instr.extract v13 0) (fun v14 w =>
  LiftP Try.prog (Instr.extract v13 1) (fun v15 w =>
  LiftP Try.prog (Instr.build 32 #[(0, (Go.Value.string { data := #[109] }))]) (fun v17 w =>
  CallP Try.prog 11 #[v7, (Go.Value.int Go.IntKind.i64 1), v17] (fun v18 w =>
  CallP Try.prog 20 #[v7, (Go.Value.int Go.IntKind.i64 1)] (fun v20 w =>
  LiftP Try.prog (Instr.build 32 #[]) (fun v22 w =>
  CallP Try.prog 11 #[v7, (Go.Value.int Go.IntKind.i64 1), v22] (fun v23 w =>
  LiftP Try.prog (binS Go.BinOp.eql 3 (Go.Operand.tmp 24) (Go.Operand.const (Go.Value.int Go.IntKind.i64 1)) v14 (Go.Value.int Go.IntKind.i64 1)) (fun v25 w =>
  GuardP v25 true (fun K w => K v15 w) (fun v27 w =>
  GuardP v25 true (fun K w => LiftP Try.prog (binS Go.BinOp.eql 28 (Go.Operand.tmp 27) (Go.Operand.const (Go.Value.int Go.IntKind.i64 0)) v27 (Go.Value.int Go.IntKind.i64 0)) K w) (fun v28 w =>
  PickP v25 v28 (Go.Value.bool false) (fun v29 w =>
  GuardP v29 true (fun K w => K v18 w) (fun v31 w =>
  GuardP v29 true (fun K w => LiftP Try.prog (Op.unary Go.UnOp.not v31) K w) (fun v32 w =>
  PickP v29 v32 (Go.Value.bool false) (fun v33 w =>
  GuardP v33 true (fun K w => K v20 w) (fun v35 w =>
  GuardP v33 true (fun K w => NextP Try.prog (builtin Go.Builtin.len #[22] 3 #[false] #[v35]) K w) (fun v36 w =>
  GuardP v33 true (fun K w => LiftP Try.prog (binS Go.BinOp.eql 3 (Go.Operand.tmp 36) (Go.Operand.const (Go.Value.int Go.IntKind.i64 1)) v36 (Go.Value.int Go.IntKind.i64 1)) K w) (fun v37 w =>
  PickP v33 v37 (Go.Value.bool false) (fun v38 w =>
  GuardP v38 true (fun K w => K v20 w) (fun v40 w =>
  GuardP v38 true (fun K w => LiftP Try.prog (Instr.indexAt 22 v40 (Go.Value.int Go.IntKind.i64 0)) K w) (fun v41 w =>
  GuardP v38 true (fun K w => LiftP Try.prog (Instr.loadAt 32 v41) K w) (fun v42 w =>
  GuardP v38 true (fun K w => LiftP Try.prog (Instr.build 32 #[(1, (Go.Value.string { data := #[109] }))]) K w) (fun v43 w =>
  GuardP v38 true (fun K w => LiftP Try.prog (binS Go.BinOp.eql 32 (Go.Operand.tmp 42) (Go.Operand.tmp 43) v42 v43) K w) (fun v44 w =>
  PickP v38 v44 (Go.Value.bool false) (fun v45 w =>
  GuardP v45 true (fun K w => K v23 w) (fun v47 w =>
  PickP v45 v47 (Go.Value.bool false) (fun v48 w =>
  GuardP v48 true (fun K w => K v7 w) (fun v50 w =>
  GuardP v48 true (fun K w => CallP Try.prog 13 #[v50, (Go.Value.int Go.IntKind.i64 1)] K w) (fun v51 w =>
  GuardP v48 true (fun K w => LiftP Try.prog (binS Go.BinOp.eql 3 (Go.Operand.tmp 51) (Go.Operand.const (Go.Value.int Go.IntKind.i64 2)) v51 (Go.Value.int Go.IntKind.i64 2)) K w) (fun v52 w =>
  PickP v48 v52 (Go.Value.bool false) (fun v53 w =>
  GuardP v53 true (fun K w => K v7 w) (fun v55 w =>
  GuardP v53 true (fun K w => CallP Try.prog 16 #[v55, (Go.Value.int Go.IntKind.i64 1)] K w) (fun v56 w =>
  GuardP v53 true (fun K w => LiftP Try.prog (binS Go.BinOp.eql 28 (Go.Operand.tmp 56) (Go.Operand.const (Go.Value.int Go.IntKind.i64 0)) v56 (Go.Value.int Go.IntKind.i64 0)) K w) (fun v57 w =>
  PickP v53 v57 (Go.Value.bool false) (fun v58 w =>
  GuardP v58 true (fun K w => K v7 w) (fun v60 w =>
  GuardP v58 true (fun K w => CallP Try.prog 26 #[v60] K w) (fun v61 w =>
  GuardP v58 true (fun K w => LiftP Try.prog (binS Go.BinOp.eql 3 (Go.Operand.tmp 61) (Go.Operand.const (Go.Value.int Go.IntKind.i64 2)) v61 (Go.Value.int Go.IntKind.i64 2)) K w) (fun v62 w =>
  PickP v58 v62 (Go.Value.bool false) (fun v63 w =>
  R v63 w) w) w) w) w) w) w) w) w) w) w) w) w) w) w) w) w) w) w) w) w) w) w) w) w) w) w) w) w) w) w) w) w) w) w) w) w) w) w) w) w) w) w) w
theorem S7.calls (R : Value → World → Prop) (w : World) (h : S7 R w) : Calls Try.prog 7 #[] w fun e w' => ∃ v, e = .returned v ∧ R v w' :=
  calls_of_tr (n := 64) (c := bodyOf Try.f7) (.two .leaf (.two .leaf (.two (.two .leaf (.two (.two .leaf .leaf) .leaf)) (.two .leaf (.two .leaf (.two .leaf (.two .leaf (.two .leaf .leaf)))))))) Try.func7 (by kernel_rfl) Try.ntmps7 (by kernel_rfl) (by kernel_rfl) [] (by kernel_rfl) (of_eq_ (by kernel_rfl) h)

/-- shelfmark/board.New -/
def S9 (R : Value → World → Prop) (w : World) : Prop :=
  LiftP Try.prog (Instr.build 65 #[]) (fun v1 w =>
  LiftP Try.prog (Instr.box 65 v1) (fun v2 w =>
  R v2 w) w) w
theorem S9.calls (R : Value → World → Prop) (w : World) (h : S9 R w) : Calls Try.prog 9 #[] w fun e w' => ∃ v, e = .returned v ∧ R v w' :=
  calls_of_tr (n := 3) (c := bodyOf Try.f9) (.two .leaf (.two .leaf .leaf)) Try.func9 (by kernel_rfl) Try.ntmps9 (by kernel_rfl) (by kernel_rfl) [] (by kernel_rfl) (of_eq_ (by kernel_rfl) h)

/-- (*shelfmark/board.Board).Declare -/
def S10 (a0 a1 : Value) (R : Value → World → Prop) (w : World) : Prop :=
  NextP Try.prog (nilChk a0) (fun v9 w =>
  LiftP Try.prog (Instr.fieldAt 65 v9 0) (fun v10 w =>
  LiftP Try.prog (Instr.loadAt 63 v10) (fun v11 w =>
  NextP Try.prog (builtin Go.Builtin.len #[63] 3 #[false] #[v11]) (fun v12 w =>
  LiftP Try.prog (binS Go.BinOp.eql 3 (Go.Operand.tmp 12) (Go.Operand.const (Go.Value.int Go.IntKind.i64 6)) v12 (Go.Value.int Go.IntKind.i64 6)) (fun v13 w =>
  CondP v13 (fun w =>
    R (.tuple #[(Go.Value.int Go.IntKind.i64 0), (Go.Value.int Go.IntKind.i64 17)]) w) (fun w =>
    NextP Try.prog (nilChk a0) (fun v15 w =>
  LiftP Try.prog (Instr.fieldAt 65 v15 0) (fun v16 w =>
  LiftP Try.prog (Instr.loadAt 63 v16) (fun v17 w =>
  NextP Try.prog (builtin Go.Builtin.len #[63] 3 #[false] #[v17]) (fun v18 w =>
  LiftP Try.prog (binS Go.BinOp.add 3 (Go.Operand.tmp 18) (Go.Operand.const (Go.Value.int Go.IntKind.i64 1)) v18 (Go.Value.int Go.IntKind.i64 1)) (fun v19 w =>
  LiftP Try.prog (Instr.build 47 #[(0, v19), (1, a1)]) (fun v22 w =>
  CallP Try.prog 27 #[v22] (fun v23 w =>
  LiftP Try.prog (binS Go.BinOp.neq 28 (Go.Operand.tmp 24) (Go.Operand.const (Go.Value.int Go.IntKind.i64 0)) v23 (Go.Value.int Go.IntKind.i64 0)) (fun v25 w =>
  CondP v25 (fun w =>
    R (.tuple #[(Go.Value.int Go.IntKind.i64 0), v23]) w) (fun w =>
    JoinP (fun J w =>
    DrawP (fun S w =>
    YieldN Try.prog S (nilChk a0) (fun v29 w =>
    YieldP Try.prog S (Instr.fieldAt 65 v29 0) (fun v30 w =>
    YieldP Try.prog S (Instr.loadAt 63 v30) (fun v31 w =>
    YieldP Try.prog S (Instr.build 32 #[]) (fun v34 w =>
    BothP (fun w =>
    ActP S (fun K w => CallP Try.prog 28 #[a1] K w) (fun S v33_1 w =>
    ActP S (fun K w => LiftP Try.prog (Instr.buildSlice 22 1 #[(0, v34)]) K w) (fun S v35_1 w =>
    YieldP Try.prog S (Instr.build 69 #[(0, v33_1), (1, (Go.Value.int Go.IntKind.i64 1)), (2, v35_1)]) (fun v36_1 w =>
    ActP S (fun K w => LiftP Try.prog (Instr.buildSlice 63 1 #[(0, v36_1)]) K w) (fun S v37_1 w =>
    ActP S (fun K w => NextP Try.prog (builtin Go.Builtin.append #[63, 63] 63 #[false, false] #[v31, v37_1]) K w) (fun S v38_1 w =>
    YieldN Try.prog S (nilChk a0) (fun v39_1 w =>
    YieldP Try.prog S (Instr.fieldAt 65 v39_1 0) (fun v40_1 w =>
    LiftU Try.prog (Instr.storeAt 63 v40_1 v38_1) (fun v__1 w =>
    J [] w) w) w) w) w) w) w) w) w) (fun w =>
    BothP (fun w =>
    ActP S (fun K w => LiftP Try.prog (Instr.buildSlice 22 1 #[(0, v34)]) K w) (fun S v35 w =>
    ActP S (fun K w => CallP Try.prog 28 #[a1] K w) (fun S v33 w =>
    YieldP Try.prog S (Instr.build 69 #[(0, v33), (1, (Go.Value.int Go.IntKind.i64 1)), (2, v35)]) (fun v36 w =>
    ActP S (fun K w => LiftP Try.prog (Instr.buildSlice 63 1 #[(0, v36)]) K w) (fun S v37 w =>
    ActP S (fun K w => NextP Try.prog (builtin Go.Builtin.append #[63, 63] 63 #[false, false] #[v31, v37]) K w) (fun S v38 w =>
    YieldN Try.prog S (nilChk a0) (fun v39 w =>
    YieldP Try.prog S (Instr.fieldAt 65 v39 0) (fun v40 w =>
    LiftU Try.prog (Instr.storeAt 63 v40 v38) (fun v_ w =>
    J [] w) w) w) w) w) w) w) w) w) (fun w =>
    True) w) w) w) w) w) w) w) (fun vs w =>   -- []
  R (.tuple #[v19, (Go.Value.int Go.IntKind.i64 0)]) w) w) w) w) w) w) w) w) w) w) w) w) w) w) w) w) w
theorem S10.calls (a0 a1 : Value) (R : Value → World → Prop) (w : World) (h : S10 a0 a1 R w) : Calls Try.prog 10 #[a0, a1] w fun e w' => ∃ v, e = .returned v ∧ R v w' :=
  calls_of_tr (n := 42) (c := bodyOf Try.f10) (.two .leaf (.two (.two .leaf (.two (.two .leaf .leaf) .leaf)) (.two .leaf (.two (.two .leaf (.two .leaf (.two (.two .leaf .leaf) .leaf))) (.join [] (.drawTL (.rd 0 (.rd 1 (.rd 2 (.rd 3 (.rd 4 (.rd 5 (.rd 7 (.alt 6 (.act 8 (.rd 9 (.act 10 (.act 11 (.rd 12 (.rd 13 .done)))))) (.alt 8 (.act 6 (.rd 9 (.act 10 (.act 11 (.rd 12 (.rd 13 .done)))))) .done))))))))) 14) (.two .leaf .leaf)))))) Try.func10 (by kernel_rfl) Try.ntmps10 (by kernel_rfl) (by kernel_rfl) [a0, a1] (by kernel_rfl) (of_eq_ (by kernel_rfl) h)

/-- (*shelfmark/board.Board).Report -/
def S11 (a0 a1 a2 : Value) (R : Value → World → Prop) (w : World) : Prop :=
  LiftP Try.prog (Instr.box 32 a2) (fun v5 w =>
  LiftP Try.prog (Instr.buildSlice 23 1 #[(0, (Go.Value.int Go.IntKind.i64 1))]) (fun v10 w =>
  CallP Try.prog 29 #[a0, a1, v10] (fun v11 w =>
  LiftP Try.prog (binS Go.BinOp.eql 70 (Go.Operand.tmp 12) (Go.Operand.const (Go.Value.pointer none)) v11 (Go.Value.pointer none)) (fun v13 w =>
  CondP v13 (fun w =>
    R (Go.Value.bool false) w) (fun w =>
    DrawP (fun S w =>
  YieldN Try.prog S (nilChk v11) (fun v16 w =>
  YieldP Try.prog S (Instr.fieldAt 69 v16 2) (fun v17 w =>
  YieldP Try.prog S (Instr.loadAt 22 v17) (fun v18 w =>
  YieldP Try.prog S (Instr.loadAt 32 v5) (fun v19 w =>
  ActP S (fun K w => CallP Try.prog 30 #[v18, v19] K w) (fun S v20 w =>
  YieldN Try.prog S (nilChk v11) (fun v21 w =>
  YieldP Try.prog S (Instr.fieldAt 69 v21 2) (fun v22 w =>
  LiftU Try.prog (Instr.storeAt 22 v22 v20) (fun v_ w =>
  NextP Try.prog (nilChk v11) (fun v24 w =>
  LiftP Try.prog (Instr.fieldAt 69 v24 2) (fun v25 w =>
  LiftP Try.prog (Instr.loadAt 22 v25) (fun v26 w =>
  NextP Try.prog (builtin Go.Builtin.len #[22] 3 #[false] #[v26]) (fun v27 w =>
  LiftP Try.prog (binS Go.BinOp.gtr 3 (Go.Operand.tmp 27) (Go.Operand.const (Go.Value.int Go.IntKind.i64 0)) v27 (Go.Value.int Go.IntKind.i64 0)) (fun v28 w =>
  CondP v28 (fun w =>
    R (Go.Value.bool false) w) (fun w =>
    NextP Try.prog (nilChk v11) (fun v30 w =>
  LiftP Try.prog (Instr.fieldAt 69 v30 1) (fun v31 w =>
  LiftU Try.prog (Instr.storeAt 3 v31 (Go.Value.int Go.IntKind.i64 2)) (fun v__1 w =>
  R (Go.Value.bool true) w) w) w) w) w) w) w) w) w) w) w) w) w) w) w) w) w) w) w) w) w) w) w) w
theorem S11.calls (a0 a1 a2 : Value) (R : Value → World → Prop) (w : World) (h : S11 a0 a1 a2 R w) : Calls Try.prog 11 #[a0, a1, a2] w fun e w' => ∃ v, e = .returned v ∧ R v w' :=
  calls_of_tr (n := 32) (c := bodyOf Try.f11) (.two .leaf (.two .leaf (.two (.two .leaf (.two (.two .leaf .leaf) .leaf)) (.two (.two (.drawL [(true, 0), (true, 1), (true, 2), (true, 3), (true, 4), (true, 5), (false, 6), (true, 7), (true, 8)] 9) (.two .leaf (.two (.two .leaf .leaf) .leaf))) (.two .leaf (.two .leaf .leaf)))))) Try.func11 (by kernel_rfl) Try.ntmps11 (by kernel_rfl) (by kernel_rfl) [a0, a1, a2] (by kernel_rfl) (of_eq_ (by kernel_rfl) h)

/-- (*shelfmark/board.Board).State -/
def S13 (a0 a1 : Value) (R : Value → World → Prop) (w : World) : Prop :=
  LiftP Try.prog (Instr.buildSlice 23 3 #[(0, (Go.Value.int Go.IntKind.i64 1)), (1, (Go.Value.int Go.IntKind.i64 2)), (2, (Go.Value.int Go.IntKind.i64 3))]) (fun v8 w =>
  CallP Try.prog 29 #[a0, a1, v8] (fun v9 w =>
  LiftP Try.prog (binS Go.BinOp.neq 70 (Go.Operand.tmp 10) (Go.Operand.const (Go.Value.pointer none)) v9 (Go.Value.pointer none)) (fun v11 w =>
  CondP v11 (fun w =>
    NextP Try.prog (nilChk v9) (fun v13 w =>
    LiftP Try.prog (Instr.fieldAt 69 v13 1) (fun v14 w =>
    LiftP Try.prog (Instr.loadAt 3 v14) (fun v15 w =>
    R v15 w) w) w) w) (fun w =>
    R (Go.Value.int Go.IntKind.i64 0) w) w) w) w) w
theorem S13.calls (a0 a1 : Value) (R : Value → World → Prop) (w : World) (h : S13 a0 a1 R w) : Calls Try.prog 13 #[a0, a1] w fun e w' => ∃ v, e = .returned v ∧ R v w' :=
  calls_of_tr (n := 16) (c := bodyOf Try.f13) (.two .leaf (.two (.two .leaf (.two .leaf (.two (.two .leaf .leaf) .leaf))) (.two .leaf .leaf))) Try.func13 (by kernel_rfl) Try.ntmps13 (by kernel_rfl) (by kernel_rfl) [a0, a1] (by kernel_rfl) (of_eq_ (by kernel_rfl) h)

/-- shelfmark/shelfmarklaw22.light -/
def S14 (a0 : Value) (R : Value → World → Prop) (w : World) : Prop :=
  LoopP (fun J vs w =>   -- [3]
    NextP Try.prog (builtin Go.Builtin.len #[37] 3 #[false] #[a0]) (fun v6 w =>
    LiftP Try.prog (binS Go.BinOp.lss 3 (Go.Operand.tmp 4) (Go.Operand.tmp 6) (vs.headD undef) v6) (fun v7 w =>
    GuardP v7 true (fun K w => K (vs.headD undef) w) (fun v9 w =>
    GuardP v7 true (fun K w => LiftP Try.prog (binS Go.BinOp.leq 3 (Go.Operand.tmp 9) (Go.Operand.const (Go.Value.int Go.IntKind.i64 60)) v9 (Go.Value.int Go.IntKind.i64 60)) K w) (fun v10 w =>
    PickP v7 v10 (Go.Value.bool false) (fun v11 w =>
    CondP v11 (fun w =>
      LiftP Try.prog (Instr.indexAt 37 a0 (vs.headD undef)) (fun v16 w =>
    LiftP Try.prog (Instr.fieldAt 44 v16 2) (fun v17 w =>
    LiftP Try.prog (Instr.loadAt 23 v17) (fun v18 w =>
    NextP Try.prog (builtin Go.Builtin.len #[23] 3 #[false] #[v18]) (fun v19 w =>
    LiftP Try.prog (binS Go.BinOp.gtr 3 (Go.Operand.tmp 19) (Go.Operand.const (Go.Value.int Go.IntKind.i64 50)) v19 (Go.Value.int Go.IntKind.i64 50)) (fun v20 w =>
    GuardP v20 false (fun K w => K a0 w) (fun v22 w =>
    GuardP v20 false (fun K w => K (vs.headD undef) w) (fun v23 w =>
    GuardP v20 false (fun K w => LiftP Try.prog (Instr.indexAt 37 v22 v23) K w) (fun v24 w =>
    GuardP v20 false (fun K w => LiftP Try.prog (Instr.fieldAt 44 v24 3) K w) (fun v25 w =>
    GuardP v20 false (fun K w => LiftP Try.prog (Instr.loadAt 32 v25) K w) (fun v26 w =>
    GuardP v20 false (fun K w => LiftP Try.prog (Instr.buildSlice 22 1 #[(0, v26)]) K w) (fun v27 w =>
    GuardP v20 false (fun K w => CallP Try.prog 8 #[v27, (Go.Value.int Go.IntKind.i64 1)] K w) (fun v28 w =>
    GuardP v20 false (fun K w => LiftP Try.prog (Op.unary Go.UnOp.not v28) K w) (fun v29 w =>
    PickP v20 (Go.Value.bool true) v29 (fun v30 w =>
    CondP v30 (fun w =>
      R (Go.Value.bool false) w) (fun w =>
      LiftP Try.prog (binS Go.BinOp.add 3 (Go.Operand.tmp 12) (Go.Operand.const (Go.Value.int Go.IntKind.i64 1)) (vs.headD undef) (Go.Value.int Go.IntKind.i64 1)) (fun v13 w =>
    J [v13] w) w) w) w) w) w) w) w) w) w) w) w) w) w) w) w) w) (fun w =>
      NextP Try.prog (builtin Go.Builtin.len #[37] 3 #[false] #[a0]) (fun v32 w =>
  LiftP Try.prog (binS Go.BinOp.leq 3 (Go.Operand.tmp 32) (Go.Operand.const (Go.Value.int Go.IntKind.i64 60)) v32 (Go.Value.int Go.IntKind.i64 60)) (fun v33 w =>
  R v33 w) w) w) w) w) w) w) w) w) [(Go.Value.int Go.IntKind.i64 0)] w
theorem S14.calls (a0 : Value) (R : Value → World → Prop) (w : World) (h : S14 a0 R w) : Calls Try.prog 14 #[a0] w fun e w' => ∃ v, e = .returned v ∧ R v w' :=
  calls_of_tr (n := 34) (c := bodyOf Try.f14) (.two .leaf (.two (.two .leaf (.one (.loop [3] (.two (.two .leaf (.two .leaf .leaf)) (.two (.one (.two .leaf (.two (.two .leaf .leaf) .leaf))) .leaf))))) (.two .leaf .leaf))) Try.func14 (by kernel_rfl) Try.ntmps14 (by kernel_rfl) (by kernel_rfl) [a0] (by kernel_rfl) (of_eq_ (by kernel_rfl) h)

/-- (*shelfmark/shelfmarkref22.Board).Declare -/
def S15 (a0 a1 : Value) (R : Value → World → Prop) (w : World) : Prop :=
  NextP Try.prog (nilChk a0) (fun v9 w =>
  LiftP Try.prog (Instr.fieldAt 42 v9 0) (fun v10 w =>
  LiftP Try.prog (Instr.loadAt 40 v10) (fun v11 w =>
  NextP Try.prog (builtin Go.Builtin.len #[40] 3 #[false] #[v11]) (fun v12 w =>
  LiftP Try.prog (binS Go.BinOp.geq 3 (Go.Operand.tmp 12) (Go.Operand.const (Go.Value.int Go.IntKind.i64 6)) v12 (Go.Value.int Go.IntKind.i64 6)) (fun v13 w =>
  CondP v13 (fun w =>
    R (.tuple #[(Go.Value.int Go.IntKind.i64 0), (Go.Value.int Go.IntKind.i64 17)]) w) (fun w =>
    LiftP Try.prog (Instr.build 47 #[(0, (Go.Value.int Go.IntKind.i64 1)), (1, a1)]) (fun v15 w =>
  CallP Try.prog 34 #[v15] (fun v16 w =>
  LiftP Try.prog (binS Go.BinOp.neq 28 (Go.Operand.tmp 17) (Go.Operand.const (Go.Value.int Go.IntKind.i64 0)) v16 (Go.Value.int Go.IntKind.i64 0)) (fun v18 w =>
  CondP v18 (fun w =>
    R (.tuple #[(Go.Value.int Go.IntKind.i64 0), v16]) w) (fun w =>
    DrawP (fun S w =>
  YieldN Try.prog S (nilChk a0) (fun v22 w =>
  YieldP Try.prog S (Instr.fieldAt 42 v22 0) (fun v23 w =>
  YieldP Try.prog S (Instr.loadAt 40 v23) (fun v24 w =>
  ActP S (fun K w => NextP Try.prog (builtin Go.Builtin.append #[23, 23] 23 #[false, false] #[(Go.Value.slice none 0 0), a1]) K w) (fun S v27 w =>
  YieldP Try.prog S (Instr.build 78 #[(0, v27), (1, (Go.Value.int Go.IntKind.i64 1))]) (fun v28 w =>
  ActP S (fun K w => LiftP Try.prog (Instr.buildSlice 40 1 #[(0, v28)]) K w) (fun S v29 w =>
  ActP S (fun K w => NextP Try.prog (builtin Go.Builtin.append #[40, 40] 40 #[false, false] #[v24, v29]) K w) (fun S v30 w =>
  YieldN Try.prog S (nilChk a0) (fun v31 w =>
  YieldP Try.prog S (Instr.fieldAt 42 v31 0) (fun v32 w =>
  LiftU Try.prog (Instr.storeAt 40 v32 v30) (fun v_ w =>
  NextP Try.prog (nilChk a0) (fun v35 w =>
  LiftP Try.prog (Instr.fieldAt 42 v35 1) (fun v36 w =>
  LiftP Try.prog (Instr.loadAt 3 v36) (fun v37 w =>
  LiftP Try.prog (binS Go.BinOp.add 3 (Go.Operand.tmp 37) (Go.Operand.const (Go.Value.int Go.IntKind.i64 1)) v37 (Go.Value.int Go.IntKind.i64 1)) (fun v38 w =>
  NextP Try.prog (nilChk a0) (fun v39 w =>
  LiftP Try.prog (Instr.fieldAt 42 v39 1) (fun v40 w =>
  LiftU Try.prog (Instr.storeAt 3 v40 v38) (fun v__1 w =>
  NextP Try.prog (nilChk a0) (fun v42 w =>
  LiftP Try.prog (Instr.fieldAt 42 v42 0) (fun v43 w =>
  LiftP Try.prog (Instr.loadAt 40 v43) (fun v44 w =>
  NextP Try.prog (builtin Go.Builtin.len #[40] 3 #[false] #[v44]) (fun v45 w =>
  R (.tuple #[v45, (Go.Value.int Go.IntKind.i64 0)]) w) w) w) w) w) w) w) w) w) w) w) w) w) w) w) w) w) w) w) w) w) w) w) w) w) w) w) w) w) w) w) w) w
theorem S15.calls (a0 a1 : Value) (R : Value → World → Prop) (w : World) (h : S15 a0 a1 R w) : Calls Try.prog 15 #[a0, a1] w fun e w' => ∃ v, e = .returned v ∧ R v w' :=
  calls_of_tr (n := 46) (c := bodyOf Try.f15) (.two .leaf (.two (.two .leaf (.two (.two .leaf .leaf) .leaf)) (.two (.two .leaf (.two .leaf (.two (.two .leaf .leaf) .leaf))) (.two .leaf (.two (.drawL [(true, 0), (true, 1), (true, 2), (true, 3), (true, 4), (true, 5), (true, 6), (false, 7), (true, 8), (false, 9), (false, 10), (true, 11), (true, 12)] 13) (.two .leaf (.two .leaf .leaf))))))) Try.func15 (by kernel_rfl) Try.ntmps15 (by kernel_rfl) (by kernel_rfl) [a0, a1] (by kernel_rfl) (of_eq_ (by kernel_rfl) h)

/-- (*shelfmark/board.Board).Drop -/
def S16 (a0 a1 : Value) (R : Value → World → Prop) (w : World) : Prop :=
  LiftP Try.prog (Instr.buildSlice 23 2 #[(0, (Go.Value.int Go.IntKind.i64 1)), (1, (Go.Value.int Go.IntKind.i64 2))]) (fun v8 w =>
  CallP Try.prog 29 #[a0, a1, v8] (fun v9 w =>
  LiftP Try.prog (binS Go.BinOp.eql 70 (Go.Operand.tmp 10) (Go.Operand.const (Go.Value.pointer none)) v9 (Go.Value.pointer none)) (fun v11 w =>
  CondP v11 (fun w =>
    R (Go.Value.int Go.IntKind.i64 7) w) (fun w =>
    LiftP Try.prog (Instr.build 69 #[(1, (Go.Value.int Go.IntKind.i64 3))]) (fun v13 w =>
  NextP Try.prog (nilChk v9) (fun v14 w =>
  LiftU Try.prog (Instr.storeAt 69 v14 v13) (fun v_ w =>
  R (Go.Value.int Go.IntKind.i64 0) w) w) w) w) w) w) w) w
theorem S16.calls (a0 a1 : Value) (R : Value → World → Prop) (w : World) (h : S16 a0 a1 R w) : Calls Try.prog 16 #[a0, a1] w fun e w' => ∃ v, e = .returned v ∧ R v w' :=
  calls_of_tr (n := 15) (c := bodyOf Try.f16) (.two .leaf (.two .leaf (.two (.two .leaf (.two (.two .leaf .leaf) .leaf)) (.two .leaf (.two .leaf .leaf))))) Try.func16 (by kernel_rfl) Try.ntmps16 (by kernel_rfl) (by kernel_rfl) [a0, a1] (by kernel_rfl) (of_eq_ (by kernel_rfl) h)

/-- (*shelfmark/shelfmarkref22.Board).Drop -/
def S17 (a0 a1 : Value) (R : Value → World → Prop) (w : World) : Prop :=
  CallP Try.prog 35 #[a0, a1] (fun v8 w =>
  LiftP Try.prog (binS Go.BinOp.neq 3 (Go.Operand.tmp 9) (Go.Operand.const (Go.Value.int Go.IntKind.i64 1)) v8 (Go.Value.int Go.IntKind.i64 1)) (fun v10 w =>
  GuardP v10 true (fun K w => K v8 w) (fun v12 w =>
  GuardP v10 true (fun K w => LiftP Try.prog (binS Go.BinOp.neq 3 (Go.Operand.tmp 12) (Go.Operand.const (Go.Value.int Go.IntKind.i64 2)) v12 (Go.Value.int Go.IntKind.i64 2)) K w) (fun v13 w =>
  PickP v10 v13 (Go.Value.bool false) (fun v14 w =>
  CondP v14 (fun w =>
    R (Go.Value.int Go.IntKind.i64 7) w) (fun w =>
    NextP Try.prog (nilChk a0) (fun v16 w =>
  LiftP Try.prog (Instr.fieldAt 42 v16 0) (fun v17 w =>
  LiftP Try.prog (Instr.loadAt 40 v17) (fun v18 w =>
  LiftP Try.prog (binS Go.BinOp.sub 3 (Go.Operand.tmp 19) (Go.Operand.const (Go.Value.int Go.IntKind.i64 1)) a1 (Go.Value.int Go.IntKind.i64 1)) (fun v20 w =>
  LiftP Try.prog (Instr.indexAt 40 v18 v20) (fun v21 w =>
  LiftP Try.prog (Instr.fieldAt 78 v21 1) (fun v22 w =>
  LiftU Try.prog (Instr.storeAt 3 v22 (Go.Value.int Go.IntKind.i64 3)) (fun v_ w =>
  NextP Try.prog (nilChk a0) (fun v25 w =>
  LiftP Try.prog (Instr.fieldAt 42 v25 1) (fun v26 w =>
  LiftP Try.prog (Instr.loadAt 3 v26) (fun v27 w =>
  LiftP Try.prog (binS Go.BinOp.add 3 (Go.Operand.tmp 27) (Go.Operand.const (Go.Value.int Go.IntKind.i64 1)) v27 (Go.Value.int Go.IntKind.i64 1)) (fun v28 w =>
  NextP Try.prog (nilChk a0) (fun v29 w =>
  LiftP Try.prog (Instr.fieldAt 42 v29 1) (fun v30 w =>
  LiftU Try.prog (Instr.storeAt 3 v30 v28) (fun v__1 w =>
  R (Go.Value.int Go.IntKind.i64 0) w) w) w) w) w) w) w) w) w) w) w) w) w) w) w) w) w) w) w) w) w
theorem S17.calls (a0 a1 : Value) (R : Value → World → Prop) (w : World) (h : S17 a0 a1 R w) : Calls Try.prog 17 #[a0, a1] w fun e w' => ∃ v, e = .returned v ∧ R v w' :=
  calls_of_tr (n := 31) (c := bodyOf Try.f17) (.two .leaf (.two (.two .leaf (.two .leaf (.two (.two .leaf .leaf) .leaf))) (.two .leaf (.two .leaf (.two .leaf .leaf))))) Try.func17 (by kernel_rfl) Try.ntmps17 (by kernel_rfl) (by kernel_rfl) [a0, a1] (by kernel_rfl) (of_eq_ (by kernel_rfl) h)

/-- (*shelfmark/shelfmarkref22.Board).Report -/
def S18 (a0 a1 a2 : Value) (R : Value → World → Prop) (w : World) : Prop :=
  LiftP Try.prog (Instr.box 32 a2) (fun v5 w =>
  CallP Try.prog 35 #[a0, a1] (fun v10 w =>
  LiftP Try.prog (binS Go.BinOp.neq 3 (Go.Operand.tmp 10) (Go.Operand.const (Go.Value.int Go.IntKind.i64 1)) v10 (Go.Value.int Go.IntKind.i64 1)) (fun v11 w =>
  CondP v11 (fun w =>
    R (Go.Value.bool false) w) (fun w =>
    NextP Try.prog (nilChk a0) (fun v14 w =>
  LiftP Try.prog (Instr.fieldAt 42 v14 0) (fun v15 w =>
  LiftP Try.prog (Instr.loadAt 40 v15) (fun v16 w =>
  LiftP Try.prog (binS Go.BinOp.sub 3 (Go.Operand.tmp 17) (Go.Operand.const (Go.Value.int Go.IntKind.i64 1)) a1 (Go.Value.int Go.IntKind.i64 1)) (fun v18 w =>
  LiftP Try.prog (Instr.indexAt 40 v16 v18) (fun v19 w =>
  LiftP Try.prog (Instr.fieldAt 78 v19 2) (fun v20 w =>
  LiftP Try.prog (Instr.loadAt 22 v20) (fun v21 w =>
  NextP Try.prog (builtin Go.Builtin.append #[22, 22] 22 #[false, false] #[(Go.Value.slice none 0 0), v21]) (fun v22 w =>
  LiftP Try.prog (Instr.loadAt 32 v5) (fun v24 w =>
  LiftP Try.prog (Instr.buildSlice 22 1 #[(0, v24)]) (fun v25 w =>
  NextP Try.prog (builtin Go.Builtin.append #[22, 22] 22 #[false, false] #[v22, v25]) (fun v26 w =>
  CallP Try.prog 36 #[v26] (fun v27 w =>
  NextP Try.prog (nilChk a0) (fun v29 w =>
  LiftP Try.prog (Instr.fieldAt 42 v29 0) (fun v30 w =>
  LiftP Try.prog (Instr.loadAt 40 v30) (fun v31 w =>
  LiftP Try.prog (binS Go.BinOp.sub 3 (Go.Operand.tmp 32) (Go.Operand.const (Go.Value.int Go.IntKind.i64 1)) a1 (Go.Value.int Go.IntKind.i64 1)) (fun v33 w =>
  LiftP Try.prog (Instr.indexAt 40 v31 v33) (fun v35 w =>
  LiftP Try.prog (Instr.fieldAt 78 v35 2) (fun v36 w =>
  LiftU Try.prog (Instr.storeAt 22 v36 v27) (fun v_ w =>
  NextP Try.prog (builtin Go.Builtin.len #[22] 3 #[false] #[v27]) (fun v38 w =>
  LiftP Try.prog (binS Go.BinOp.eql 3 (Go.Operand.tmp 38) (Go.Operand.const (Go.Value.int Go.IntKind.i64 1)) v38 (Go.Value.int Go.IntKind.i64 1)) (fun v39 w =>
  GuardP v39 true (fun K w => K v27 w) (fun v41 w =>
  GuardP v39 true (fun K w => LiftP Try.prog (Instr.indexAt 22 v41 (Go.Value.int Go.IntKind.i64 0)) K w) (fun v42 w =>
  GuardP v39 true (fun K w => LiftP Try.prog (Instr.loadAt 32 v42) K w) (fun v43 w =>
  GuardP v39 true (fun K w => LiftP Try.prog (Instr.build 32 #[]) K w) (fun v44 w =>
  GuardP v39 true (fun K w => LiftP Try.prog (binS Go.BinOp.eql 32 (Go.Operand.tmp 43) (Go.Operand.tmp 44) v43 v44) K w) (fun v45 w =>
  PickP v39 v45 (Go.Value.bool false) (fun v46 w =>
  CondP v46 (fun w =>
    NextP Try.prog (nilChk a0) (fun v48 w =>
    LiftP Try.prog (Instr.fieldAt 42 v48 0) (fun v49 w =>
    LiftP Try.prog (Instr.loadAt 40 v49) (fun v50 w =>
    LiftP Try.prog (binS Go.BinOp.sub 3 (Go.Operand.tmp 51) (Go.Operand.const (Go.Value.int Go.IntKind.i64 1)) a1 (Go.Value.int Go.IntKind.i64 1)) (fun v52 w =>
    LiftP Try.prog (Instr.indexAt 40 v50 v52) (fun v53 w =>
    LiftP Try.prog (Instr.fieldAt 78 v53 1) (fun v54 w =>
    LiftU Try.prog (Instr.storeAt 3 v54 (Go.Value.int Go.IntKind.i64 2)) (fun v__1 w =>
    R (Go.Value.bool true) w) w) w) w) w) w) w) w) (fun w =>
    R (Go.Value.bool false) w) w) w) w) w) w) w) w) w) w) w) w) w) w) w) w) w) w) w) w) w) w) w) w) w) w) w) w) w) w) w) w) w
theorem S18.calls (a0 a1 a2 : Value) (R : Value → World → Prop) (w : World) (h : S18 a0 a1 a2 R w) : Calls Try.prog 18 #[a0, a1, a2] w fun e w' => ∃ v, e = .returned v ∧ R v w' :=
  calls_of_tr (n := 55) (c := bodyOf Try.f18) (.two .leaf (.two (.two .leaf (.two (.two .leaf .leaf) .leaf)) (.two .leaf (.two .leaf (.two .leaf (.two .leaf (.two (.two .leaf (.two (.two .leaf (.two .leaf .leaf)) .leaf)) (.two .leaf .leaf)))))))) Try.func18 (by kernel_rfl) Try.ntmps18 (by kernel_rfl) (by kernel_rfl) [a0, a1, a2] (by kernel_rfl) (of_eq_ (by kernel_rfl) h)

/-- (*shelfmark/board.Board).Index -/
def S19 (a0 a1 : Value) (R : Value → World → Prop) (w : World) : Prop :=
  LiftP Try.prog (Instr.alloc 47 true (.tuple #[])) (fun v4 w =>
  LiftP Try.prog (Instr.buildSlice 23 2 #[(0, (Go.Value.int Go.IntKind.i64 1)), (1, (Go.Value.int Go.IntKind.i64 2))]) (fun v9 w =>
  CallP Try.prog 29 #[a0, a1, v9] (fun v10 w =>
  LiftP Try.prog (binS Go.BinOp.neq 70 (Go.Operand.tmp 11) (Go.Operand.const (Go.Value.pointer none)) v10 (Go.Value.pointer none)) (fun v12 w =>
  CondP v12 (fun w =>
    NextP Try.prog (nilChk v10) (fun v15 w =>
    LiftP Try.prog (Instr.fieldAt 69 v15 0) (fun v16 w =>
    LiftP Try.prog (Instr.loadAt 23 v16) (fun v17 w =>
    CallP Try.prog 28 #[v17] (fun v18 w =>
    LiftP Try.prog (Instr.build 47 #[(0, a1), (1, v18)]) (fun v19 w =>
    LiftU Try.prog (Instr.storeAt 47 v4 v19) (fun v_ w =>
    RetC Try.prog v4 47 (fun x => R (.tuple #[x, (Go.Value.bool true)]) w) w) w) w) w) w) w) w) (fun w =>
    LiftP Try.prog (Instr.build 47 #[]) (fun v20 w =>
  LiftU Try.prog (Instr.storeAt 47 v4 v20) (fun v__1 w =>
  RetC Try.prog v4 47 (fun x_1 => R (.tuple #[x_1, (Go.Value.bool false)]) w) w) w) w) w) w) w) w) w
theorem S19.calls (a0 a1 : Value) (R : Value → World → Prop) (w : World) (h : S19 a0 a1 R w) : Calls Try.prog 19 #[a0, a1] w fun e w' => ∃ v, e = .returned v ∧ R v w' :=
  calls_of_tr (n := 21) (c := bodyOf Try.f19) (.two .leaf (.two (.two .leaf (.two .leaf (.two (.two .leaf .leaf) .leaf))) (.two .leaf .leaf))) Try.func19 (by kernel_rfl) Try.ntmps19 (by kernel_rfl) (by kernel_rfl) [a0, a1] (by kernel_rfl) (of_eq_ (by kernel_rfl) h)

/-- (*shelfmark/board.Board).Left -/
def S20 (a0 a1 : Value) (R : Value → World → Prop) (w : World) : Prop :=
  LiftP Try.prog (Instr.buildSlice 23 1 #[(0, (Go.Value.int Go.IntKind.i64 1))]) (fun v8 w =>
  CallP Try.prog 29 #[a0, a1, v8] (fun v9 w =>
  LiftP Try.prog (binS Go.BinOp.neq 70 (Go.Operand.tmp 10) (Go.Operand.const (Go.Value.pointer none)) v9 (Go.Value.pointer none)) (fun v11 w =>
  CondP v11 (fun w =>
    NextP Try.prog (nilChk v9) (fun v13 w =>
    LiftP Try.prog (Instr.fieldAt 69 v13 2) (fun v14 w =>
    LiftP Try.prog (Instr.loadAt 22 v14) (fun v15 w =>
    CallP Try.prog 37 #[v15] (fun v16 w =>
    R v16 w) w) w) w) w) (fun w =>
    R (Go.Value.slice none 0 0) w) w) w) w) w
theorem S20.calls (a0 a1 : Value) (R : Value → World → Prop) (w : World) (h : S20 a0 a1 R w) : Calls Try.prog 20 #[a0, a1] w fun e w' => ∃ v, e = .returned v ∧ R v w' :=
  calls_of_tr (n := 17) (c := bodyOf Try.f20) (.two .leaf (.two (.two .leaf (.two .leaf (.two (.two .leaf .leaf) .leaf))) (.two .leaf .leaf))) Try.func20 (by kernel_rfl) Try.ntmps20 (by kernel_rfl) (by kernel_rfl) [a0, a1] (by kernel_rfl) (of_eq_ (by kernel_rfl) h)

/-- (*shelfmark/board.Board).There -/
def S21 (a0 : Value) (R : Value → World → Prop) (w : World) : Prop :=
  NextP Try.prog (nilChk a0) (fun v8 w =>
  LiftP Try.prog (Instr.fieldAt 65 v8 0) (fun v9 w =>
  LiftP Try.prog (Instr.loadAt 63 v9) (fun v10 w =>
  NextP Try.prog (builtin Go.Builtin.len #[63] 3 #[false] #[v10]) (fun v11 w =>
  LiftP Try.prog (binS Go.BinOp.add 3 (Go.Operand.tmp 11) (Go.Operand.const (Go.Value.int Go.IntKind.i64 1)) v11 (Go.Value.int Go.IntKind.i64 1)) (fun v12 w =>
  LoopP (fun J vs w =>   -- [3, 13]
    LiftP Try.prog (binS Go.BinOp.lss 3 (Go.Operand.tmp 13) (Go.Operand.tmp 12) (vs.tail.headD undef) v12) (fun v14 w =>
    CondP v14 (fun w =>
      JoinP (fun J_1 w =>
      CallP Try.prog 19 #[a0, (vs.tail.headD undef)] (fun v19 w =>
      LiftP Try.prog (Instr.extract v19 0) (fun v20 w =>
      LiftP Try.prog (Instr.extract v19 1) (fun v21 w =>
      LiftP Try.prog (Instr.alloc 47 true (.tuple #[])) (fun v5 w =>
      LiftU Try.prog (Instr.storeAt 47 v5 v20) (fun v_ w =>
      CondP v21 (fun w =>
        LiftP Try.prog (Instr.loadAt 47 v5) (fun v24 w =>
        LiftP Try.prog (Instr.buildSlice 51 1 #[(0, v24)]) (fun v25 w =>
        NextP Try.prog (builtin Go.Builtin.append #[51, 51] 51 #[false, false] #[(vs.headD undef), v25]) (fun v26 w =>
        J_1 [v26] w) w) w) w) (fun w =>
        J_1 [(vs.headD undef)] w) w) w) w) w) w) w) (fun vs_1 w =>   -- [3]
    LiftP Try.prog (binS Go.BinOp.add 3 (Go.Operand.tmp 13) (Go.Operand.const (Go.Value.int Go.IntKind.i64 1)) (vs.tail.headD undef) (Go.Value.int Go.IntKind.i64 1)) (fun v27 w =>
    J [(vs_1.headD undef), v27] w) w) w) (fun w =>
      R (vs.headD undef) w) w) w) [(Go.Value.slice none 0 0), (Go.Value.int Go.IntKind.i64 0)] w) w) w) w) w) w
theorem S21.calls (a0 : Value) (R : Value → World → Prop) (w : World) (h : S21 a0 R w) : Calls Try.prog 21 #[a0] w fun e w' => ∃ v, e = .returned v ∧ R v w' :=
  calls_of_tr (n := 29) (c := bodyOf Try.f21) (.two .leaf (.two .leaf (.two (.two .leaf (.one (.loop [3, 13] (.two .leaf (.two (.two .leaf .leaf) (.join [3] (.one (.two .leaf (.two .leaf (.two .leaf (.two .leaf .leaf))))) .leaf)))))) (.two .leaf .leaf)))) Try.func21 (by kernel_rfl) Try.ntmps21 (by kernel_rfl) (by kernel_rfl) [a0] (by kernel_rfl) (of_eq_ (by kernel_rfl) h)

/-- (*shelfmark/board.Board).Gone -/
def S22 (a0 : Value) (R : Value → World → Prop) (w : World) : Prop :=
  NextP Try.prog (nilChk a0) (fun v6 w =>
  LiftP Try.prog (Instr.fieldAt 65 v6 0) (fun v7 w =>
  LiftP Try.prog (Instr.loadAt 63 v7) (fun v8 w =>
  NextP Try.prog (builtin Go.Builtin.len #[63] 3 #[false] #[v8]) (fun v9 w =>
  LiftP Try.prog (binS Go.BinOp.add 3 (Go.Operand.tmp 9) (Go.Operand.const (Go.Value.int Go.IntKind.i64 1)) v9 (Go.Value.int Go.IntKind.i64 1)) (fun v10 w =>
  LoopP (fun J vs w =>   -- [3, 11]
    LiftP Try.prog (binS Go.BinOp.lss 3 (Go.Operand.tmp 11) (Go.Operand.tmp 10) (vs.tail.headD undef) v10) (fun v12 w =>
    CondP v12 (fun w =>
      JoinP (fun J_1 w =>
      LiftP Try.prog (Instr.buildSlice 23 1 #[(0, (Go.Value.int Go.IntKind.i64 3))]) (fun v16 w =>
      CallP Try.prog 29 #[a0, (vs.tail.headD undef), v16] (fun v17 w =>
      LiftP Try.prog (binS Go.BinOp.neq 70 (Go.Operand.tmp 17) (Go.Operand.const (Go.Value.pointer none)) v17 (Go.Value.pointer none)) (fun v18 w =>
      CondP v18 (fun w =>
        LiftP Try.prog (Instr.buildSlice 23 1 #[(0, (vs.tail.headD undef))]) (fun v21 w =>
        NextP Try.prog (builtin Go.Builtin.append #[23, 23] 23 #[false, false] #[(vs.headD undef), v21]) (fun v22 w =>
        J_1 [v22] w) w) w) (fun w =>
        J_1 [(vs.headD undef)] w) w) w) w) w) (fun vs_1 w =>   -- [3]
    LiftP Try.prog (binS Go.BinOp.add 3 (Go.Operand.tmp 11) (Go.Operand.const (Go.Value.int Go.IntKind.i64 1)) (vs.tail.headD undef) (Go.Value.int Go.IntKind.i64 1)) (fun v23 w =>
    J [(vs_1.headD undef), v23] w) w) w) (fun w =>
      R (vs.headD undef) w) w) w) [(Go.Value.slice none 0 0), (Go.Value.int Go.IntKind.i64 0)] w) w) w) w) w) w
theorem S22.calls (a0 : Value) (R : Value → World → Prop) (w : World) (h : S22 a0 R w) : Calls Try.prog 22 #[a0] w fun e w' => ∃ v, e = .returned v ∧ R v w' :=
  calls_of_tr (n := 25) (c := bodyOf Try.f22) (.two .leaf (.two .leaf (.two (.two .leaf (.one (.loop [3, 11] (.two .leaf (.two (.two .leaf .leaf) (.join [3] (.one (.two .leaf (.two .leaf (.two .leaf .leaf)))) .leaf)))))) (.two .leaf .leaf)))) Try.func22 (by kernel_rfl) Try.ntmps22 (by kernel_rfl) (by kernel_rfl) [a0] (by kernel_rfl) (of_eq_ (by kernel_rfl) h)

/-- shelfmark/shelfmarklaw22.same -/
def S23 (a0 a1 : Value) (R : Value → World → Prop) (w : World) : Prop :=
  DrawP (fun S w =>
  YieldP Try.prog S (binS Go.BinOp.eql 26 (Go.Operand.tmp 9) (Go.Operand.const (Go.Value.pointer none)) a0 (Go.Value.pointer none)) (fun v10 w =>
  GuardP v10 false (fun K w => K a0 w) (fun v12 w =>
  GuardP v10 false (fun K w => K a1 w) (fun v14 w =>
  GuardP v10 false (fun K w => YieldN Try.prog S (nilChk v14) K w) (fun v15 w =>
  GuardP v10 false (fun K w => YieldP Try.prog S (Instr.fieldAt 42 v15 1) K w) (fun v16 w =>
  GuardP v10 false (fun K w => YieldP Try.prog S (Instr.loadAt 3 v16) K w) (fun v17 w =>
  GuardA v10 false S (fun K w => CallP Try.prog 26 #[v12] K w) (fun S v13 w =>
  GuardP v10 false (fun K w => YieldP Try.prog S (binS Go.BinOp.neq 3 (Go.Operand.tmp 13) (Go.Operand.tmp 17) v13 v17) K w) (fun v18 w =>
  PickP v10 (Go.Value.bool true) v18 (fun v19 w =>
  GuardP v19 false (fun K w => K a0 w) (fun v21 w =>
  GuardP v19 false (fun K w => K a1 w) (fun v23 w =>
  GuardA v19 false S (fun K w => CallP Try.prog 21 #[v21] K w) (fun S v22 w =>
  GuardA v19 false S (fun K w => CallP Try.prog 39 #[v23] K w) (fun S v24 w =>
  GuardA v19 false S (fun K w => CallP Try.prog 38 #[v22, v24] K w) (fun S v25 w =>
  GuardP v19 false (fun K w => YieldP Try.prog S (Op.unary Go.UnOp.not v25) K w) (fun v26 w =>
  PickP v19 (Go.Value.bool true) v26 (fun v27 w =>
  GuardP v27 false (fun K w => K a0 w) (fun v29 w =>
  GuardP v27 false (fun K w => K a1 w) (fun v31 w =>
  GuardA v27 false S (fun K w => CallP Try.prog 22 #[v29] K w) (fun S v30 w =>
  GuardA v27 false S (fun K w => CallP Try.prog 41 #[v31] K w) (fun S v32 w =>
  GuardA v27 false S (fun K w => CallP Try.prog 40 #[v30, v32] K w) (fun S v33 w =>
  GuardP v27 false (fun K w => YieldP Try.prog S (Op.unary Go.UnOp.not v33) K w) (fun v34 w =>
  PickP v27 (Go.Value.bool true) v34 (fun v35 w =>
  CondP v35 (fun w =>
    R (Go.Value.bool false) w) (fun w =>
    LoopP (fun J vs w =>   -- [5]
    LiftP Try.prog (binS Go.BinOp.lss 3 (Go.Operand.tmp 36) (Go.Operand.const (Go.Value.int Go.IntKind.i64 9)) (vs.headD undef) (Go.Value.int Go.IntKind.i64 9)) (fun v37 w =>
    CondP v37 (fun w =>
      CallP Try.prog 19 #[a0, (vs.headD undef)] (fun v43 w =>
    LiftP Try.prog (Instr.extract v43 0) (fun v44 w =>
    LiftP Try.prog (Instr.extract v43 1) (fun v45 w =>
    LiftP Try.prog (Instr.alloc 47 true (.tuple #[])) (fun v6 w =>
    LiftU Try.prog (Instr.storeAt 47 v6 v44) (fun v_ w =>
    CallP Try.prog 35 #[a1, (vs.headD undef)] (fun v48 w =>
    JoinP (fun J_1 w =>
      DrawP (fun S w =>
      ActP S (fun K w => CallP Try.prog 13 #[a0, (vs.headD undef)] K w) (fun S v51 w =>
      YieldP Try.prog S (binS Go.BinOp.neq 3 (Go.Operand.tmp 51) (Go.Operand.tmp 52) v51 v48) (fun v53 w =>
      GuardP v53 false (fun K w => K v45 w) (fun v55 w =>
      GuardP v53 false (fun K w => K v48 w) (fun v56 w =>
      GuardP v53 false (fun K w => YieldP Try.prog S (binS Go.BinOp.eql 3 (Go.Operand.tmp 56) (Go.Operand.const (Go.Value.int Go.IntKind.i64 1)) v56 (Go.Value.int Go.IntKind.i64 1)) K w) (fun v57 w =>
      GuardP v53 false (fun K w => K v57 w) (fun v58 w =>
      GuardP v58 false (fun K w => K v48 w) (fun v59 w =>
      GuardP v58 false (fun K w => YieldP Try.prog S (binS Go.BinOp.eql 3 (Go.Operand.tmp 59) (Go.Operand.const (Go.Value.int Go.IntKind.i64 2)) v59 (Go.Value.int Go.IntKind.i64 2)) K w) (fun v60 w =>
      GuardP v53 false (fun K w => PickP v58 (Go.Value.bool true) v60 K w) (fun v61 w =>
      GuardP v53 false (fun K w => YieldP Try.prog S (binS Go.BinOp.neq 4 (Go.Operand.tmp 55) (Go.Operand.tmp 61) v55 v61) K w) (fun v62 w =>
      PickP v53 (Go.Value.bool true) v62 (fun v63 w =>
      GuardP v63 false (fun K w => K a0 w) (fun v65 w =>
      GuardP v63 false (fun K w => K (vs.headD undef) w) (fun v66 w =>
      GuardP v63 false (fun K w => K a1 w) (fun v68 w =>
      GuardP v63 false (fun K w => K (vs.headD undef) w) (fun v69 w =>
      GuardA v63 false S (fun K w => CallP Try.prog 20 #[v65, v66] K w) (fun S v67 w =>
      GuardA v63 false S (fun K w => CallP Try.prog 43 #[v68, v69] K w) (fun S v70 w =>
      GuardA v63 false S (fun K w => CallP Try.prog 42 #[v67, v70] K w) (fun S v71 w =>
      GuardP v63 false (fun K w => YieldP Try.prog S (Op.unary Go.UnOp.not v71) K w) (fun v72 w =>
      PickP v63 (Go.Value.bool true) v72 (fun v73 w =>
      GuardP v73 false (fun K w => K v45 w) (fun v75 w =>
      GuardP v73 false (fun K w => K v75 w) (fun v76 w =>
      GuardP v76 true (fun K w => YieldP Try.prog S (Instr.loadAt 47 v6) K w) (fun v77 w =>
      GuardP v76 true (fun K w => K (vs.headD undef) w) (fun v79 w =>
      GuardP v76 true (fun K w => K a1 w) (fun v80 w =>
      GuardP v76 true (fun K w => YieldN Try.prog S (nilChk v80) K w) (fun v81 w =>
      GuardP v76 true (fun K w => YieldP Try.prog S (Instr.fieldAt 42 v81 0) K w) (fun v82 w =>
      GuardP v76 true (fun K w => YieldP Try.prog S (Instr.loadAt 40 v82) K w) (fun v83 w =>
      GuardP v76 true (fun K w => K (vs.headD undef) w) (fun v84 w =>
      GuardP v76 true (fun K w => YieldP Try.prog S (binS Go.BinOp.sub 3 (Go.Operand.tmp 84) (Go.Operand.const (Go.Value.int Go.IntKind.i64 1)) v84 (Go.Value.int Go.IntKind.i64 1)) K w) (fun v85 w =>
      GuardP v76 true (fun K w => YieldP Try.prog S (Instr.indexAt 40 v83 v85) K w) (fun v86 w =>
      GuardP v76 true (fun K w => YieldP Try.prog S (Instr.fieldAt 78 v86 0) K w) (fun v87 w =>
      GuardP v76 true (fun K w => YieldP Try.prog S (Instr.loadAt 23 v87) K w) (fun v88 w =>
      GuardP v76 true (fun K w => YieldP Try.prog S (Instr.build 47 #[(0, v79), (1, v88)]) K w) (fun v89 w =>
      BothP (fun w =>
      GuardA v76 true S (fun K w => LiftP Try.prog (Instr.buildSlice 51 1 #[(0, v77)]) K w) (fun S v78_1 w =>
      GuardA v76 true S (fun K w => LiftP Try.prog (Instr.buildSlice 51 1 #[(0, v89)]) K w) (fun S v90_1 w =>
      GuardA v76 true S (fun K w => CallP Try.prog 38 #[v78_1, v90_1] K w) (fun S v91_1 w =>
      GuardP v76 true (fun K w => YieldP Try.prog S (Op.unary Go.UnOp.not v91_1) K w) (fun v92_1 w =>
      GuardP v73 false (fun K w => PickP v76 v92_1 (Go.Value.bool false) K w) (fun v93_1 w =>
      PickP v73 (Go.Value.bool true) v93_1 (fun v94_1 w =>
      J_1 [v94_1] w) w) w) w) w) w) w) (fun w =>
      BothP (fun w =>
      GuardA v76 true S (fun K w => LiftP Try.prog (Instr.buildSlice 51 1 #[(0, v89)]) K w) (fun S v90 w =>
      GuardA v76 true S (fun K w => LiftP Try.prog (Instr.buildSlice 51 1 #[(0, v77)]) K w) (fun S v78 w =>
      GuardA v76 true S (fun K w => CallP Try.prog 38 #[v78, v90] K w) (fun S v91 w =>
      GuardP v76 true (fun K w => YieldP Try.prog S (Op.unary Go.UnOp.not v91) K w) (fun v92 w =>
      GuardP v73 false (fun K w => PickP v76 v92 (Go.Value.bool false) K w) (fun v93 w =>
      PickP v73 (Go.Value.bool true) v93 (fun v94 w =>
      J_1 [v94] w) w) w) w) w) w) w) (fun w =>
      True) w) w) w) w) w) w) w) w) w) w) w) w) w) w) w) w) w) w) w) w) w) w) w) w) w) w) w) w) w) w) w) w) w) w) w) w) w) (fun vs_1 w =>   -- [94]
    CondP (vs_1.headD undef) (fun w =>
      R (Go.Value.bool false) w) (fun w =>
      LiftP Try.prog (binS Go.BinOp.add 3 (Go.Operand.tmp 38) (Go.Operand.const (Go.Value.int Go.IntKind.i64 1)) (vs.headD undef) (Go.Value.int Go.IntKind.i64 1)) (fun v39 w =>
    J [v39] w) w) w) w) w) w) w) w) w) w) (fun w =>
      R (Go.Value.bool true) w) w) w) [(Go.Value.int Go.IntKind.i64 (-1))] w) w) w) w) w) w) w) w) w) w) w) w) w) w) w) w) w) w) w) w) w) w) w) w) w) w
theorem S23.calls (a0 a1 : Value) (R : Value → World → Prop) (w : World) (h : S23 a0 a1 R w) : Calls Try.prog 23 #[a0, a1] w fun e w' => ∃ v, e = .returned v ∧ R v w' :=
  calls_of_tr (n := 95) (c := bodyOf Try.f23) (.two .leaf (.two (.two (.draw [(true, 0), (true, 1), (true, 2), (true, 3), (true, 5), (true, 6), (true, 7), (true, 8), (false, 4), (true, 9), (true, 10), (true, 11), (true, 12), (true, 14), (false, 13), (false, 15), (false, 16), (true, 17), (true, 18), (true, 19), (true, 20), (true, 22), (false, 21), (false, 23), (false, 24), (true, 25), (true, 26)]) (.two (.two .leaf .leaf) .leaf)) (.two (.two .leaf (.one (.loop [5] (.two (.two .leaf (.two .leaf .leaf)) (.two (.one (.two .leaf (.two .leaf (.join [94] (.drawT (.rd 0 (.rd 1 (.rd 3 (.act 2 (.rd 4 (.rd 5 (.rd 6 (.rd 7 (.rd 8 (.rd 9 (.rd 10 (.rd 11 (.rd 12 (.rd 13 (.rd 14 (.rd 15 (.rd 16 (.rd 17 (.rd 19 (.rd 20 (.act 18 (.act 21 (.act 22 (.rd 23 (.rd 24 (.rd 25 (.rd 26 (.rd 27 (.rd 28 (.rd 30 (.rd 31 (.rd 32 (.rd 33 (.rd 34 (.rd 35 (.rd 36 (.rd 37 (.rd 38 (.rd 39 (.rd 40 (.alt 29 (.act 41 (.act 42 (.rd 43 (.rd 44 (.rd 45 .done))))) (.alt 41 (.act 29 (.act 42 (.rd 43 (.rd 44 (.rd 45 .done))))) .done))))))))))))))))))))))))))))))))))))))))))) (.two (.two .leaf .leaf) .leaf))))) .leaf))))) (.two .leaf .leaf)))) Try.func23 (by kernel_rfl) Try.ntmps23 (by kernel_rfl) (by kernel_rfl) [a0, a1] (by kernel_rfl) (of_eq_ (by kernel_rfl) h)

/-- shelfmark/board.Load -/
def S24 (a0 : Value) (R : Value → World → Prop) (w : World) : Prop :=
  LiftP Try.prog (convert 9 84 a0) (fun v12 w =>
  LiftP Try.prog (Instr.build 86 #[(0, v12)]) (fun v13 w =>
  LiftP Try.prog (Instr.box 86 v13) (fun v14 w =>
  CallP Try.prog 9 #[] (fun v15 w =>
  CallP Try.prog 44 #[v14, (Go.Value.int Go.IntKind.i64 6)] (fun v17 w =>
  LoopP (fun J vs w =>   -- [6]
    LiftP Try.prog (binS Go.BinOp.gtr 3 (Go.Operand.tmp 18) (Go.Operand.const (Go.Value.int Go.IntKind.i64 0)) (vs.headD undef) (Go.Value.int Go.IntKind.i64 0)) (fun v19 w =>
    GuardP v19 true (fun K w => K v14 w) (fun v21 w =>
    GuardP v19 true (fun K w => NextP Try.prog (nilChk v21) K w) (fun v22 w =>
    GuardP v19 true (fun K w => LiftP Try.prog (Instr.fieldAt 86 v22 2) K w) (fun v23 w =>
    GuardP v19 true (fun K w => LiftP Try.prog (Instr.loadAt 4 v23) K w) (fun v24 w =>
    GuardP v19 true (fun K w => LiftP Try.prog (Op.unary Go.UnOp.not v24) K w) (fun v25 w =>
    PickP v19 v25 (Go.Value.bool false) (fun v26 w =>
    CondP v26 (fun w =>
      CallP Try.prog 44 #[v14, (Go.Value.int Go.IntKind.i64 3)] (fun v30 w =>
    LiftP Try.prog (Instr.build 69 #[(1, v30)]) (fun v31 w =>
    LiftP Try.prog (Instr.alloc 69 true (.tuple #[])) (fun v7 w =>
    LiftU Try.prog (Instr.storeAt 69 v7 v31) (fun v_ w =>
    CallP Try.prog 44 #[v14, (Go.Value.int Go.IntKind.i64 2)] (fun v33 w =>
    LoopP (fun J_1 vs_1 w =>   -- [8]
      LiftP Try.prog (binS Go.BinOp.gtr 3 (Go.Operand.tmp 34) (Go.Operand.const (Go.Value.int Go.IntKind.i64 0)) (vs_1.headD undef) (Go.Value.int Go.IntKind.i64 0)) (fun v35 w =>
      GuardP v35 true (fun K w => K v14 w) (fun v37 w =>
      GuardP v35 true (fun K w => NextP Try.prog (nilChk v37) K w) (fun v38 w =>
      GuardP v35 true (fun K w => LiftP Try.prog (Instr.fieldAt 86 v38 2) K w) (fun v39 w =>
      GuardP v35 true (fun K w => LiftP Try.prog (Instr.loadAt 4 v39) K w) (fun v40 w =>
      GuardP v35 true (fun K w => LiftP Try.prog (Op.unary Go.UnOp.not v40) K w) (fun v41 w =>
      PickP v35 v41 (Go.Value.bool false) (fun v42 w =>
      CondP v42 (fun w =>
        DrawP (fun S w =>
      YieldP Try.prog S (Instr.fieldAt 69 v7 0) (fun v45 w =>
      YieldP Try.prog S (Instr.loadAt 23 v45) (fun v46 w =>
      ActP S (fun K w => CallP Try.prog 44 #[v14, (Go.Value.int Go.IntKind.i64 4)] K w) (fun S v48 w =>
      ActP S (fun K w => LiftP Try.prog (Instr.buildSlice 23 1 #[(0, v48)]) K w) (fun S v49 w =>
      ActP S (fun K w => NextP Try.prog (builtin Go.Builtin.append #[23, 23] 23 #[false, false] #[v46, v49]) K w) (fun S v50 w =>
      YieldP Try.prog S (Instr.fieldAt 69 v7 0) (fun v51 w =>
      LiftU Try.prog (Instr.storeAt 23 v51 v50) (fun v__1 w =>
      LiftP Try.prog (binS Go.BinOp.sub 3 (Go.Operand.tmp 43) (Go.Operand.const (Go.Value.int Go.IntKind.i64 1)) (vs_1.headD undef) (Go.Value.int Go.IntKind.i64 1)) (fun v44 w =>
      J_1 [v44] w) w) w) w) w) w) w) w) w) w) (fun w =>
        CallP Try.prog 45 #[v14] (fun v53 w =>
    LoopP (fun J_2 vs_2 w =>   -- [9]
      NextP Try.prog (builtin Go.Builtin.len #[73] 3 #[false] #[(vs_2.headD undef)]) (fun v55 w =>
      LiftP Try.prog (binS Go.BinOp.gtr 3 (Go.Operand.tmp 55) (Go.Operand.const (Go.Value.int Go.IntKind.i64 1)) v55 (Go.Value.int Go.IntKind.i64 1)) (fun v56 w =>
      CondP v56 (fun w =>
        DrawP (fun S w =>
      YieldP Try.prog S (Instr.fieldAt 69 v7 2) (fun v59 w =>
      YieldP Try.prog S (Instr.loadAt 22 v59) (fun v60 w =>
      YieldP Try.prog S (Instr.indexAt 73 (vs_2.headD undef) (Go.Value.int Go.IntKind.i64 0)) (fun v62 w =>
      YieldP Try.prog S (Instr.loadAt 9 v62) (fun v63 w =>
      YieldP Try.prog S (Instr.indexAt 73 (vs_2.headD undef) (Go.Value.int Go.IntKind.i64 1)) (fun v65 w =>
      YieldP Try.prog S (Instr.loadAt 9 v65) (fun v66 w =>
      YieldP Try.prog S (Instr.build 32 #[(0, v63), (1, v66)]) (fun v67 w =>
      ActP S (fun K w => LiftP Try.prog (Instr.buildSlice 22 1 #[(0, v67)]) K w) (fun S v68 w =>
      ActP S (fun K w => NextP Try.prog (builtin Go.Builtin.append #[22, 22] 22 #[false, false] #[v60, v68]) K w) (fun S v69 w =>
      YieldP Try.prog S (Instr.fieldAt 69 v7 2) (fun v70 w =>
      LiftU Try.prog (Instr.storeAt 22 v70 v69) (fun v__2 w =>
      LiftP Try.prog (Instr.sliceAt 73 (vs_2.headD undef) (some (Go.Value.int Go.IntKind.i64 2)) none none) (fun v58 w =>
      J_2 [v58] w) w) w) w) w) w) w) w) w) w) w) w) w) w) (fun w =>
        NextP Try.prog (builtin Go.Builtin.len #[73] 3 #[false] #[(vs_2.headD undef)]) (fun v72 w =>
    LiftP Try.prog (binS Go.BinOp.gtr 3 (Go.Operand.tmp 72) (Go.Operand.const (Go.Value.int Go.IntKind.i64 0)) v72 (Go.Value.int Go.IntKind.i64 0)) (fun v73 w =>
    GuardP v73 false (fun K w => LiftP Try.prog (Instr.fieldAt 69 v7 1) K w) (fun v75 w =>
    GuardP v73 false (fun K w => LiftP Try.prog (Instr.loadAt 3 v75) K w) (fun v76 w =>
    GuardP v73 false (fun K w => LiftP Try.prog (binS Go.BinOp.eql 3 (Go.Operand.tmp 76) (Go.Operand.const (Go.Value.int Go.IntKind.i64 3)) v76 (Go.Value.int Go.IntKind.i64 3)) K w) (fun v77 w =>
    GuardP v73 false (fun K w => K v77 w) (fun v78 w =>
    GuardP v78 true (fun K w => LiftP Try.prog (Instr.fieldAt 69 v7 0) K w) (fun v79 w =>
    GuardP v78 true (fun K w => LiftP Try.prog (Instr.loadAt 23 v79) K w) (fun v80 w =>
    GuardP v78 true (fun K w => NextP Try.prog (builtin Go.Builtin.len #[23] 3 #[false] #[v80]) K w) (fun v81 w =>
    GuardP v78 true (fun K w => LiftP Try.prog (binS Go.BinOp.gtr 3 (Go.Operand.tmp 81) (Go.Operand.const (Go.Value.int Go.IntKind.i64 0)) v81 (Go.Value.int Go.IntKind.i64 0)) K w) (fun v82 w =>
    GuardP v73 false (fun K w => PickP v78 v82 (Go.Value.bool false) K w) (fun v83 w =>
    PickP v73 (Go.Value.bool true) v83 (fun v84 w =>
    GuardP v84 false (fun K w => LiftP Try.prog (Instr.fieldAt 69 v7 1) K w) (fun v86 w =>
    GuardP v84 false (fun K w => LiftP Try.prog (Instr.loadAt 3 v86) K w) (fun v87 w =>
    GuardP v84 false (fun K w => LiftP Try.prog (binS Go.BinOp.neq 3 (Go.Operand.tmp 87) (Go.Operand.const (Go.Value.int Go.IntKind.i64 3)) v87 (Go.Value.int Go.IntKind.i64 3)) K w) (fun v88 w =>
    GuardP v84 false (fun K w => K v88 w) (fun v89 w =>
    GuardP v89 true (fun K w => LiftP Try.prog (Instr.fieldAt 69 v7 0) K w) (fun v90 w =>
    GuardP v89 true (fun K w => LiftP Try.prog (Instr.loadAt 23 v90) K w) (fun v91 w =>
    GuardP v89 true (fun K w => LiftP Try.prog (Instr.build 47 #[(0, (Go.Value.int Go.IntKind.i64 1)), (1, v91)]) K w) (fun v92 w =>
    GuardP v89 true (fun K w => CallP Try.prog 27 #[v92] K w) (fun v93 w =>
    GuardP v89 true (fun K w => LiftP Try.prog (binS Go.BinOp.neq 28 (Go.Operand.tmp 93) (Go.Operand.const (Go.Value.int Go.IntKind.i64 0)) v93 (Go.Value.int Go.IntKind.i64 0)) K w) (fun v94 w =>
    GuardP v84 false (fun K w => PickP v89 v94 (Go.Value.bool false) K w) (fun v95 w =>
    PickP v84 (Go.Value.bool true) v95 (fun v96 w =>
    JoinP (fun J_3 w =>
      DrawP (fun S w =>
      GuardP v96 false (fun K w => YieldP Try.prog S (Instr.fieldAt 69 v7 1) K w) (fun v99 w =>
      GuardP v96 false (fun K w => YieldP Try.prog S (Instr.loadAt 3 v99) K w) (fun v100 w =>
      GuardP v96 false (fun K w => YieldP Try.prog S (binS Go.BinOp.eql 3 (Go.Operand.tmp 100) (Go.Operand.const (Go.Value.int Go.IntKind.i64 0)) v100 (Go.Value.int Go.IntKind.i64 0)) K w) (fun v101 w =>
      PickP v96 (Go.Value.bool true) v101 (fun v102 w =>
      GuardP v102 false (fun K w => YieldP Try.prog S (Instr.fieldAt 69 v7 1) K w) (fun v104 w =>
      GuardP v102 false (fun K w => YieldP Try.prog S (Instr.loadAt 3 v104) K w) (fun v105 w =>
      GuardP v102 false (fun K w => YieldP Try.prog S (binS Go.BinOp.eql 3 (Go.Operand.tmp 105) (Go.Operand.const (Go.Value.int Go.IntKind.i64 1)) v105 (Go.Value.int Go.IntKind.i64 1)) K w) (fun v106 w =>
      GuardP v102 false (fun K w => YieldP Try.prog S (Instr.fieldAt 69 v7 2) K w) (fun v107 w =>
      GuardP v102 false (fun K w => YieldP Try.prog S (Instr.loadAt 22 v107) K w) (fun v108 w =>
      GuardP v102 false (fun K w => YieldN Try.prog S (builtin Go.Builtin.len #[22] 3 #[false] #[v108]) K w) (fun v109 w =>
      GuardP v102 false (fun K w => YieldP Try.prog S (binS Go.BinOp.gtr 3 (Go.Operand.tmp 109) (Go.Operand.const (Go.Value.int Go.IntKind.i64 0)) v109 (Go.Value.int Go.IntKind.i64 0)) K w) (fun v110 w =>
      GuardP v102 false (fun K w => YieldP Try.prog S (binS Go.BinOp.neq 4 (Go.Operand.tmp 106) (Go.Operand.tmp 110) v106 v110) K w) (fun v111 w =>
      PickP v102 (Go.Value.bool true) v111 (fun v112 w =>
      GuardP v112 false (fun K w => YieldP Try.prog S (Instr.fieldAt 69 v7 2) K w) (fun v114 w =>
      GuardP v112 false (fun K w => YieldP Try.prog S (Instr.loadAt 22 v114) K w) (fun v115 w =>
      GuardP v112 false (fun K w => YieldP Try.prog S (Instr.fieldAt 69 v7 2) K w) (fun v117 w =>
      GuardP v112 false (fun K w => YieldP Try.prog S (Instr.loadAt 22 v117) K w) (fun v118 w =>
      GuardA v112 false S (fun K w => CallP Try.prog 47 #[v115] K w) (fun S v116 w =>
      GuardA v112 false S (fun K w => CallP Try.prog 46 #[v116, v118] K w) (fun S v119 w =>
      GuardP v112 false (fun K w => YieldP Try.prog S (Op.unary Go.UnOp.not v119) K w) (fun v120 w =>
      PickP v112 (Go.Value.bool true) v120 (fun v121 w =>
      CondP v121 (fun w =>
        NextP Try.prog (nilChk v14) (fun v123 w =>
        LiftP Try.prog (Instr.fieldAt 86 v123 2) (fun v124 w =>
        LiftU Try.prog (Instr.storeAt 4 v124 (Go.Value.bool true)) (fun v__3 w =>
        J_3 [] w) w) w) w) (fun w =>
        J_3 [] w) w) w) w) w) w) w) w) w) w) w) w) w) w) w) w) w) w) w) w) w) w) w) w) (fun vs_3 w =>   -- []
    DrawP (fun S w =>
    YieldN Try.prog S (nilChk v15) (fun v127 w =>
    YieldP Try.prog S (Instr.fieldAt 65 v127 0) (fun v128 w =>
    YieldP Try.prog S (Instr.loadAt 63 v128) (fun v129 w =>
    YieldP Try.prog S (Instr.loadAt 69 v7) (fun v130 w =>
    ActP S (fun K w => LiftP Try.prog (Instr.buildSlice 63 1 #[(0, v130)]) K w) (fun S v131 w =>
    ActP S (fun K w => NextP Try.prog (builtin Go.Builtin.append #[63, 63] 63 #[false, false] #[v129, v131]) K w) (fun S v132 w =>
    YieldN Try.prog S (nilChk v15) (fun v133 w =>
    YieldP Try.prog S (Instr.fieldAt 65 v133 0) (fun v134 w =>
    LiftU Try.prog (Instr.storeAt 63 v134 v132) (fun v__4 w =>
    LiftP Try.prog (binS Go.BinOp.sub 3 (Go.Operand.tmp 27) (Go.Operand.const (Go.Value.int Go.IntKind.i64 1)) (vs.headD undef) (Go.Value.int Go.IntKind.i64 1)) (fun v28 w =>
    J [v28] w) w) w) w) w) w) w) w) w) w) w) w) w) w) w) w) w) w) w) w) w) w) w) w) w) w) w) w) w) w) w) w) w) w) w) w) w) w) w) [v53] w) w) w) w) w) w) w) w) w) w) [v33] w) w) w) w) w) w) (fun w =>
      NextP Try.prog (nilChk v14) (fun v136 w =>
  LiftP Try.prog (Instr.fieldAt 86 v136 2) (fun v137 w =>
  LiftP Try.prog (Instr.loadAt 4 v137) (fun v138 w =>
  GuardP v138 false (fun K w => K v14 w) (fun v140 w =>
  GuardP v138 false (fun K w => NextP Try.prog (nilChk v140) K w) (fun v141 w =>
  GuardP v138 false (fun K w => LiftP Try.prog (Instr.fieldAt 86 v141 1) K w) (fun v142 w =>
  GuardP v138 false (fun K w => LiftP Try.prog (Instr.loadAt 3 v142) K w) (fun v143 w =>
  GuardP v138 false (fun K w => K a0 w) (fun v144 w =>
  GuardP v138 false (fun K w => NextP Try.prog (builtin Go.Builtin.len #[9] 3 #[false] #[v144]) K w) (fun v145 w =>
  GuardP v138 false (fun K w => LiftP Try.prog (binS Go.BinOp.neq 3 (Go.Operand.tmp 143) (Go.Operand.tmp 145) v143 v145) K w) (fun v146 w =>
  PickP v138 (Go.Value.bool true) v146 (fun v147 w =>
  CondP v147 (fun w =>
    R (.tuple #[(Go.Value.pointer none), (Go.Value.int Go.IntKind.i64 3)]) w) (fun w =>
    R (.tuple #[v15, (Go.Value.int Go.IntKind.i64 0)]) w) w) w) w) w) w) w) w) w) w) w) w) w) w) w) w) w) w) w) w) w) [v17] w) w) w) w) w) w
theorem S24.calls (a0 : Value) (R : Value → World → Prop) (w : World) (h : S24 a0 R w) : Calls Try.prog 24 #[a0] w fun e w' => ∃ v, e = .returned v ∧ R v w' :=
  calls_of_tr (n := 149) (c := bodyOf Try.f24) (.two .leaf (.two .leaf (.two .leaf (.two (.two .leaf (.one (.loop [6] (.two (.two .leaf (.two .leaf .leaf)) (.two (.one (.two .leaf (.two (.two .leaf (.one (.loop [8] (.two (.two .leaf (.two .leaf .leaf)) (.two (.one (.drawL [(true, 0), (true, 1), (true, 2), (false, 3), (false, 4), (false, 5), (true, 6)] 7)) .leaf))))) (.two .leaf (.two (.one (.loop [9] (.two (.two .leaf (.two .leaf .leaf)) (.two (.one (.drawL [(true, 0), (true, 1), (true, 2), (true, 3), (true, 4), (true, 5), (true, 6), (true, 7), (true, 8), (false, 9), (false, 10), (true, 11)] 12)) .leaf)))) (.two .leaf (.join [] (.two (.draw [(true, 0), (true, 1), (true, 2), (true, 3), (true, 4), (true, 5), (true, 6), (true, 7), (true, 8), (true, 9), (true, 10), (true, 11), (true, 12), (true, 13), (true, 14), (true, 15), (true, 16), (true, 17), (true, 18), (true, 20), (true, 21), (false, 19), (false, 22), (true, 23), (true, 24)]) (.two .leaf .leaf)) (.drawL [(true, 0), (true, 1), (true, 2), (true, 3), (true, 4), (true, 5), (false, 6), (false, 7), (true, 8), (true, 9)] 10)))))))) .leaf))))) (.two (.two .leaf (.two (.two .leaf .leaf) .leaf)) (.two .leaf .leaf)))))) Try.func24 (by kernel_rfl) Try.ntmps24 (by kernel_rfl) (by kernel_rfl) [a0] (by kernel_rfl) (of_eq_ (by kernel_rfl) h)

/-- (*shelfmark/board.Board).Save -/
def S25 (a0 : Value) (R : Value → World → Prop) (w : World) : Prop :=
  NextP Try.prog (nilChk a0) (fun v13 w =>
  LiftP Try.prog (Instr.fieldAt 65 v13 0) (fun v14 w =>
  LiftP Try.prog (Instr.loadAt 63 v14) (fun v15 w =>
  NextP Try.prog (builtin Go.Builtin.len #[63] 3 #[false] #[v15]) (fun v16 w =>
  CallP Try.prog 48 #[v16] (fun v17 w =>
  NextP Try.prog (nilChk a0) (fun v19 w =>
  LiftP Try.prog (Instr.fieldAt 65 v19 0) (fun v20 w =>
  LiftP Try.prog (Instr.loadAt 63 v20) (fun v21 w =>
  NextP Try.prog (builtin Go.Builtin.len #[63] 3 #[false] #[v21]) (fun v22 w =>
  LoopP (fun J vs w =>   -- [3, 23]
    LiftP Try.prog (binS Go.BinOp.lss 3 (Go.Operand.tmp 23) (Go.Operand.tmp 22) (vs.tail.headD undef) v22) (fun v24 w =>
    CondP v24 (fun w =>
      LiftP Try.prog (Instr.indexAt 63 v21 (vs.tail.headD undef)) (fun v26 w =>
    LiftP Try.prog (Instr.loadAt 69 v26) (fun v27 w =>
    LiftP Try.prog (Instr.alloc 69 true (.tuple #[])) (fun v5 w =>
    LiftU Try.prog (Instr.storeAt 69 v5 v27) (fun v_ w =>
    LiftP Try.prog (Instr.fieldAt 69 v5 0) (fun v28 w =>
    LiftP Try.prog (Instr.loadAt 23 v28) (fun v29 w =>
    LiftP Try.prog (Instr.fieldAt 69 v5 1) (fun v31 w =>
    LiftP Try.prog (Instr.loadAt 3 v31) (fun v32 w =>
    CallP Try.prog 48 #[v32] (fun v33 w =>
    NextP Try.prog (builtin Go.Builtin.len #[23] 3 #[false] #[v29]) (fun v35 w =>
    CallP Try.prog 48 #[v35] (fun v36 w =>
    LiftP Try.prog (Instr.buildSlice 111 2 #[(0, v33), (1, v36)]) (fun v37 w =>
    CallP Try.prog 49 #[v37] (fun v38 w =>
    NextP Try.prog (builtin Go.Builtin.append #[84, 84] 84 #[false, false] #[(vs.headD undef), v38]) (fun v39 w =>
    NextP Try.prog (builtin Go.Builtin.len #[23] 3 #[false] #[v29]) (fun v41 w =>
    LoopP (fun J_1 vs_1 w =>   -- [3, 42]
      LiftP Try.prog (binS Go.BinOp.lss 3 (Go.Operand.tmp 42) (Go.Operand.tmp 41) (vs_1.tail.headD undef) v41) (fun v43 w =>
      CondP v43 (fun w =>
        LiftP Try.prog (Instr.indexAt 23 v29 (vs_1.tail.headD undef)) (fun v44 w =>
      LiftP Try.prog (Instr.loadAt 3 v44) (fun v45 w =>
      CallP Try.prog 48 #[v45] (fun v48 w =>
      NextP Try.prog (builtin Go.Builtin.append #[84, 84] 84 #[false, false] #[(vs_1.headD undef), v48]) (fun v49 w =>
      LiftP Try.prog (binS Go.BinOp.add 3 (Go.Operand.tmp 42) (Go.Operand.const (Go.Value.int Go.IntKind.i64 1)) (vs_1.tail.headD undef) (Go.Value.int Go.IntKind.i64 1)) (fun v50 w =>
      J_1 [v49, v50] w) w) w) w) w) w) (fun w =>
        LiftP Try.prog (binS Go.BinOp.add 3 (Go.Operand.tmp 52) (Go.Operand.const (Go.Value.int Go.IntKind.i64 1)) (vs.tail.headD undef) (Go.Value.int Go.IntKind.i64 1)) (fun v53 w =>
    CallP Try.prog 20 #[a0, v53] (fun v54 w =>
    NextP Try.prog (builtin Go.Builtin.len #[22] 3 #[false] #[v54]) (fun v55 w =>
    LoopP (fun J_2 vs_2 w =>   -- [9, 56]
      LiftP Try.prog (binS Go.BinOp.lss 3 (Go.Operand.tmp 56) (Go.Operand.tmp 55) (vs_2.tail.headD undef) v55) (fun v57 w =>
      CondP v57 (fun w =>
        LiftP Try.prog (Instr.indexAt 22 v54 (vs_2.tail.headD undef)) (fun v58 w =>
      LiftP Try.prog (Instr.loadAt 32 v58) (fun v59 w =>
      LiftP Try.prog (Instr.alloc 32 true (.tuple #[])) (fun v11 w =>
      LiftU Try.prog (Instr.storeAt 32 v11 v59) (fun v__1 w =>
      LiftP Try.prog (Instr.fieldAt 32 v11 0) (fun v61 w =>
      LiftP Try.prog (Instr.loadAt 9 v61) (fun v62 w =>
      LiftP Try.prog (Instr.fieldAt 32 v11 1) (fun v63 w =>
      LiftP Try.prog (Instr.loadAt 9 v63) (fun v64 w =>
      LiftP Try.prog (Instr.buildSlice 73 2 #[(0, v62), (1, v64)]) (fun v65 w =>
      NextP Try.prog (builtin Go.Builtin.append #[73, 73] 73 #[false, false] #[(vs_2.headD undef), v65]) (fun v66 w =>
      LiftP Try.prog (binS Go.BinOp.add 3 (Go.Operand.tmp 56) (Go.Operand.const (Go.Value.int Go.IntKind.i64 1)) (vs_2.tail.headD undef) (Go.Value.int Go.IntKind.i64 1)) (fun v67 w =>
      J_2 [v66, v67] w) w) w) w) w) w) w) w) w) w) w) w) (fun w =>
        CallP Try.prog 50 #[(vs_2.headD undef)] (fun v70 w =>
    NextP Try.prog (builtin Go.Builtin.append #[84, 84] 84 #[false, false] #[(vs_1.headD undef), v70]) (fun v71 w =>
    LiftP Try.prog (binS Go.BinOp.add 3 (Go.Operand.tmp 23) (Go.Operand.const (Go.Value.int Go.IntKind.i64 1)) (vs.tail.headD undef) (Go.Value.int Go.IntKind.i64 1)) (fun v72 w =>
    J [v71, v72] w) w) w) w) w) w) [(Go.Value.slice none 0 0), (Go.Value.int Go.IntKind.i64 0)] w) w) w) w) w) w) [v39, (Go.Value.int Go.IntKind.i64 0)] w) w) w) w) w) w) w) w) w) w) w) w) w) w) w) w) (fun w =>
      LiftP Try.prog (convert 84 9 (vs.headD undef)) (fun v74 w =>
  R v74 w) w) w) w) [v17, (Go.Value.int Go.IntKind.i64 0)] w) w) w) w) w) w) w) w) w) w
theorem S25.calls (a0 : Value) (R : Value → World → Prop) (w : World) (h : S25 a0 R w) : Calls Try.prog 25 #[a0] w fun e w' => ∃ v, e = .returned v ∧ R v w' :=
  calls_of_tr (n := 75) (c := bodyOf Try.f25) (.two .leaf (.two .leaf (.two (.two .leaf (.one (.loop [3, 23] (.two .leaf (.two (.two .leaf .leaf) (.two (.one (.two .leaf (.two .leaf (.two .leaf (.two (.two .leaf (.one (.loop [3, 42] (.two .leaf (.two (.two .leaf .leaf) (.two (.one (.two .leaf .leaf)) .leaf)))))) (.two .leaf (.two (.two .leaf (.one (.loop [9, 56] (.two .leaf (.two (.two .leaf .leaf) (.two (.one (.two .leaf .leaf)) .leaf)))))) .leaf))))))) .leaf)))))) (.two .leaf .leaf)))) Try.func25 (by kernel_rfl) Try.ntmps25 (by kernel_rfl) (by kernel_rfl) [a0] (by kernel_rfl) (of_eq_ (by kernel_rfl) h)

/-- (*shelfmark/board.Board).Version -/
def S26 (a0 : Value) (R : Value → World → Prop) (w : World) : Prop :=
  DrawP (fun S w =>
  YieldN Try.prog S (nilChk a0) (fun v4 w =>
  YieldP Try.prog S (Instr.fieldAt 65 v4 0) (fun v5 w =>
  YieldP Try.prog S (Instr.loadAt 63 v5) (fun v6 w =>
  YieldN Try.prog S (builtin Go.Builtin.len #[63] 3 #[false] #[v6]) (fun v7 w =>
  ActP S (fun K w => CallP Try.prog 22 #[a0] K w) (fun S v9 w =>
  YieldN Try.prog S (builtin Go.Builtin.len #[23] 3 #[false] #[v9]) (fun v10 w =>
  YieldP Try.prog S (binS Go.BinOp.add 3 (Go.Operand.tmp 7) (Go.Operand.tmp 10) v7 v10) (fun v11 w =>
  R v11 w) w) w) w) w) w) w) w) w
theorem S26.calls (a0 : Value) (R : Value → World → Prop) (w : World) (h : S26 a0 R w) : Calls Try.prog 26 #[a0] w fun e w' => ∃ v, e = .returned v ∧ R v w' :=
  calls_of_tr (n := 12) (c := bodyOf Try.f26) (.two .leaf (.two (.draw [(true, 0), (true, 1), (true, 2), (true, 3), (true, 4), (true, 5), (false, 6), (true, 7), (true, 8), (true, 9)]) .leaf)) Try.func26 (by kernel_rfl) Try.ntmps26 (by kernel_rfl) (by kernel_rfl) [a0] (by kernel_rfl) (of_eq_ (by kernel_rfl) h)

/-- shelfmark/record.CheckIndex -/
def S27 (a0 : Value) (R : Value → World → Prop) (w : World) : Prop :=
  LiftP Try.prog (Instr.box 47 a0) (fun v1 w =>
  DrawP (fun S w =>
  YieldP Try.prog S (Instr.fieldAt 47 v1 0) (fun v7 w =>
  YieldP Try.prog S (Instr.loadAt 3 v7) (fun v8 w =>
  YieldP Try.prog S (Instr.fieldAt 47 v1 1) (fun v18 w =>
  YieldP Try.prog S (Instr.loadAt 23 v18) (fun v19 w =>
  YieldN Try.prog S (builtin Go.Builtin.len #[23] 3 #[false] #[v19]) (fun v20 w =>
  YieldP Try.prog S (binS Go.BinOp.gtr 3 (Go.Operand.tmp 20) (Go.Operand.const (Go.Value.int Go.IntKind.i64 2)) v20 (Go.Value.int Go.IntKind.i64 2)) (fun v21 w =>
  ActP S (fun K w => CallP Try.prog 53 #[v8] K w) (fun S v9 w =>
  YieldP Try.prog S (Op.unary Go.UnOp.not v9) (fun v10 w =>
  GuardP v10 false (fun K w => YieldP Try.prog S (Instr.fieldAt 47 v1 1) K w) (fun v12 w =>
  GuardP v10 false (fun K w => YieldP Try.prog S (Instr.loadAt 23 v12) K w) (fun v13 w =>
  GuardP v10 false (fun K w => YieldN Try.prog S (builtin Go.Builtin.len #[23] 3 #[false] #[v13]) K w) (fun v14 w =>
  GuardP v10 false (fun K w => YieldP Try.prog S (binS Go.BinOp.eql 3 (Go.Operand.tmp 14) (Go.Operand.const (Go.Value.int Go.IntKind.i64 0)) v14 (Go.Value.int Go.IntKind.i64 0)) K w) (fun v15 w =>
  PickP v10 (Go.Value.bool true) v15 (fun v16 w =>
  ActP S (fun K w => CallP Try.prog 52 #[v16, (Go.Value.int Go.IntKind.i64 1)] K w) (fun S v17 w =>
  ActP S (fun K w => CallP Try.prog 52 #[v21, (Go.Value.int Go.IntKind.i64 4)] K w) (fun S v22 w =>
  ActP S (fun K w => LiftP Try.prog (Instr.buildSlice 113 2 #[(0, v17), (1, v22)]) K w) (fun S v23 w =>
  ActP S (fun K w => CallP Try.prog 51 #[v23] K w) (fun S v24 w =>
  LiftP Try.prog (binS Go.BinOp.neq 28 (Go.Operand.tmp 25) (Go.Operand.const (Go.Value.int Go.IntKind.i64 0)) v24 (Go.Value.int Go.IntKind.i64 0)) (fun v26 w =>
  CondP v26 (fun w =>
    R v24 w) (fun w =>
    LiftP Try.prog (Instr.alloc 94 true (.tuple #[])) (fun v4 w =>
  LiftP Try.prog (Instr.fieldAt 47 v1 1) (fun v28 w =>
  LiftP Try.prog (Instr.loadAt 23 v28) (fun v29 w =>
  NextP Try.prog (builtin Go.Builtin.len #[23] 3 #[false] #[v29]) (fun v30 w =>
  LoopP (fun J vs w =>   -- [31]
    LiftP Try.prog (binS Go.BinOp.lss 3 (Go.Operand.tmp 31) (Go.Operand.tmp 30) (vs.headD undef) v30) (fun v32 w =>
    CondP v32 (fun w =>
      LiftP Try.prog (Instr.indexAt 23 v29 (vs.headD undef)) (fun v33 w =>
    LiftP Try.prog (Instr.loadAt 3 v33) (fun v34 w =>
    LiftP Try.prog (binS Go.BinOp.lss 3 (Go.Operand.tmp 35) (Go.Operand.const (Go.Value.int Go.IntKind.i64 0)) v34 (Go.Value.int Go.IntKind.i64 0)) (fun v36 w =>
    GuardP v36 false (fun K w => K v34 w) (fun v38 w =>
    GuardP v36 false (fun K w => LiftP Try.prog (binS Go.BinOp.geq 3 (Go.Operand.tmp 38) (Go.Operand.const (Go.Value.int Go.IntKind.i64 4)) v38 (Go.Value.int Go.IntKind.i64 4)) K w) (fun v39 w =>
    PickP v36 (Go.Value.bool true) v39 (fun v40 w =>
    GuardP v40 false (fun K w => K v34 w) (fun v42 w =>
    GuardP v40 false (fun K w => LiftP Try.prog (Instr.indexAt 94 v4 v42) K w) (fun v43 w =>
    GuardP v40 false (fun K w => LiftP Try.prog (Instr.loadAt 4 v43) K w) (fun v44 w =>
    PickP v40 (Go.Value.bool true) v44 (fun v45 w =>
    CondP v45 (fun w =>
      R (Go.Value.int Go.IntKind.i64 1) w) (fun w =>
      LiftP Try.prog (Instr.indexAt 94 v4 v34) (fun v47 w =>
    LiftU Try.prog (Instr.storeAt 4 v47 (Go.Value.bool true)) (fun v_ w =>
    LiftP Try.prog (binS Go.BinOp.add 3 (Go.Operand.tmp 31) (Go.Operand.const (Go.Value.int Go.IntKind.i64 1)) (vs.headD undef) (Go.Value.int Go.IntKind.i64 1)) (fun v48 w =>
    J [v48] w) w) w) w) w) w) w) w) w) w) w) w) w) w) w) (fun w =>
      R (Go.Value.int Go.IntKind.i64 0) w) w) w) [(Go.Value.int Go.IntKind.i64 0)] w) w) w) w) w) w) w) w) w) w) w) w) w) w) w) w) w) w) w) w) w) w) w) w) w) w
theorem S27.calls (a0 : Value) (R : Value → World → Prop) (w : World) (h : S27 a0 R w) : Calls Try.prog 27 #[a0] w fun e w' => ∃ v, e = .returned v ∧ R v w' :=
  calls_of_tr (n := 49) (c := bodyOf Try.f27) (.two .leaf (.two (.draw [(true, 0), (true, 1), (true, 11), (true, 12), (true, 13), (true, 14), (false, 2), (true, 3), (true, 4), (true, 5), (true, 6), (true, 7), (true, 8), (true, 9), (false, 10), (false, 15), (false, 16), (false, 17), (true, 18)]) (.two (.two .leaf (.two (.two .leaf .leaf) .leaf)) (.two .leaf (.two (.two .leaf (.one (.loop [31] (.two .leaf (.two (.two .leaf .leaf) (.two (.one (.two .leaf (.two (.two .leaf (.two (.two .leaf .leaf) .leaf)) .leaf))) .leaf)))))) (.two .leaf .leaf)))))) Try.func27 (by kernel_rfl) Try.ntmps27 (by kernel_rfl) (by kernel_rfl) [a0] (by kernel_rfl) (of_eq_ (by kernel_rfl) h)

/-- slices.Clone[[]int,int] -/
def S28 (a0 : Value) (R : Value → World → Prop) (w : World) : Prop :=
  LiftP Try.prog (binS Go.BinOp.eql 23 (Go.Operand.tmp 3) (Go.Operand.const (Go.Value.slice none 0 0)) a0 (Go.Value.slice none 0 0)) (fun v4 w =>
  CondP v4 (fun w =>
    R (Go.Value.slice none 0 0) w) (fun w =>
    LiftP Try.prog (Instr.buildSlice 23 0 #[]) (fun v5 w =>
  NextP Try.prog (builtin Go.Builtin.append #[23, 23] 23 #[false, false] #[v5, a0]) (fun v7 w =>
  R v7 w) w) w) w) w
theorem S28.calls (a0 : Value) (R : Value → World → Prop) (w : World) (h : S28 a0 R w) : Calls Try.prog 28 #[a0] w fun e w' => ∃ v, e = .returned v ∧ R v w' :=
  calls_of_tr (n := 8) (c := bodyOf Try.f28) (.two .leaf (.two (.two .leaf (.two (.two .leaf .leaf) .leaf)) (.two .leaf .leaf))) Try.func28 (by kernel_rfl) Try.ntmps28 (by kernel_rfl) (by kernel_rfl) [a0] (by kernel_rfl) (of_eq_ (by kernel_rfl) h)

/-- (*shelfmark/board.Board).at -/
def S29 (a0 a1 a2 : Value) (R : Value → World → Prop) (w : World) : Prop :=
  LiftP Try.prog (binS Go.BinOp.lss 3 (Go.Operand.tmp 7) (Go.Operand.const (Go.Value.int Go.IntKind.i64 1)) a1 (Go.Value.int Go.IntKind.i64 1)) (fun v8 w =>
  GuardP v8 false (fun K w => K a1 w) (fun v10 w =>
  GuardP v8 false (fun K w => K a0 w) (fun v11 w =>
  GuardP v8 false (fun K w => NextP Try.prog (nilChk v11) K w) (fun v12 w =>
  GuardP v8 false (fun K w => LiftP Try.prog (Instr.fieldAt 65 v12 0) K w) (fun v13 w =>
  GuardP v8 false (fun K w => LiftP Try.prog (Instr.loadAt 63 v13) K w) (fun v14 w =>
  GuardP v8 false (fun K w => NextP Try.prog (builtin Go.Builtin.len #[63] 3 #[false] #[v14]) K w) (fun v15 w =>
  GuardP v8 false (fun K w => LiftP Try.prog (binS Go.BinOp.gtr 3 (Go.Operand.tmp 10) (Go.Operand.tmp 15) v10 v15) K w) (fun v16 w =>
  PickP v8 (Go.Value.bool true) v16 (fun v17 w =>
  GuardP v17 false (fun K w => K a2 w) (fun v19 w =>
  GuardP v17 false (fun K w => K a0 w) (fun v20 w =>
  GuardP v17 false (fun K w => NextP Try.prog (nilChk v20) K w) (fun v21 w =>
  GuardP v17 false (fun K w => LiftP Try.prog (Instr.fieldAt 65 v21 0) K w) (fun v22 w =>
  GuardP v17 false (fun K w => LiftP Try.prog (Instr.loadAt 63 v22) K w) (fun v23 w =>
  GuardP v17 false (fun K w => K a1 w) (fun v24 w =>
  GuardP v17 false (fun K w => LiftP Try.prog (binS Go.BinOp.sub 3 (Go.Operand.tmp 24) (Go.Operand.const (Go.Value.int Go.IntKind.i64 1)) v24 (Go.Value.int Go.IntKind.i64 1)) K w) (fun v25 w =>
  GuardP v17 false (fun K w => LiftP Try.prog (Instr.indexAt 63 v23 v25) K w) (fun v26 w =>
  GuardP v17 false (fun K w => LiftP Try.prog (Instr.fieldAt 69 v26 1) K w) (fun v27 w =>
  GuardP v17 false (fun K w => LiftP Try.prog (Instr.loadAt 3 v27) K w) (fun v28 w =>
  GuardP v17 false (fun K w => CallP Try.prog 54 #[v19, v28] K w) (fun v29 w =>
  GuardP v17 false (fun K w => LiftP Try.prog (Op.unary Go.UnOp.not v29) K w) (fun v30 w =>
  PickP v17 (Go.Value.bool true) v30 (fun v31 w =>
  CondP v31 (fun w =>
    R (Go.Value.pointer none) w) (fun w =>
    NextP Try.prog (nilChk a0) (fun v33 w =>
  LiftP Try.prog (Instr.fieldAt 65 v33 0) (fun v34 w =>
  LiftP Try.prog (Instr.loadAt 63 v34) (fun v35 w =>
  LiftP Try.prog (binS Go.BinOp.sub 3 (Go.Operand.tmp 36) (Go.Operand.const (Go.Value.int Go.IntKind.i64 1)) a1 (Go.Value.int Go.IntKind.i64 1)) (fun v37 w =>
  LiftP Try.prog (Instr.indexAt 63 v35 v37) (fun v38 w =>
  R v38 w) w) w) w) w) w) w) w) w) w) w) w) w) w) w) w) w) w) w) w) w) w) w) w) w) w) w) w) w
theorem S29.calls (a0 a1 a2 : Value) (R : Value → World → Prop) (w : World) (h : S29 a0 a1 a2 R w) : Calls Try.prog 29 #[a0, a1, a2] w fun e w' => ∃ v, e = .returned v ∧ R v w' :=
  calls_of_tr (n := 39) (c := bodyOf Try.f29) (.two .leaf (.two (.two .leaf (.two (.two .leaf .leaf) .leaf)) (.two .leaf .leaf))) Try.func29 (by kernel_rfl) Try.ntmps29 (by kernel_rfl) (by kernel_rfl) [a0, a1, a2] (by kernel_rfl) (of_eq_ (by kernel_rfl) h)

/-- shelfmark/shelfmarkref04.CheckIndex -/
def S34 (a0 : Value) (R : Value → World → Prop) (w : World) : Prop :=
  LiftP Try.prog (Instr.box 47 a0) (fun v1 w =>
  LiftP Try.prog (Instr.fieldAt 47 v1 0) (fun v4 w =>
  LiftP Try.prog (Instr.loadAt 3 v4) (fun v5 w =>
  LiftP Try.prog (binS Go.BinOp.lss 3 (Go.Operand.tmp 5) (Go.Operand.const (Go.Value.int Go.IntKind.i64 1)) v5 (Go.Value.int Go.IntKind.i64 1)) (fun v6 w =>
  GuardP v6 false (fun K w => LiftP Try.prog (Instr.fieldAt 47 v1 0) K w) (fun v8 w =>
  GuardP v6 false (fun K w => LiftP Try.prog (Instr.loadAt 3 v8) K w) (fun v9 w =>
  GuardP v6 false (fun K w => LiftP Try.prog (binS Go.BinOp.gtr 3 (Go.Operand.tmp 9) (Go.Operand.const (Go.Value.int Go.IntKind.i64 6)) v9 (Go.Value.int Go.IntKind.i64 6)) K w) (fun v10 w =>
  PickP v6 (Go.Value.bool true) v10 (fun v11 w =>
  GuardP v11 false (fun K w => LiftP Try.prog (Instr.fieldAt 47 v1 1) K w) (fun v13 w =>
  GuardP v11 false (fun K w => LiftP Try.prog (Instr.loadAt 23 v13) K w) (fun v14 w =>
  GuardP v11 false (fun K w => NextP Try.prog (builtin Go.Builtin.len #[23] 3 #[false] #[v14]) K w) (fun v15 w =>
  GuardP v11 false (fun K w => LiftP Try.prog (binS Go.BinOp.eql 3 (Go.Operand.tmp 15) (Go.Operand.const (Go.Value.int Go.IntKind.i64 0)) v15 (Go.Value.int Go.IntKind.i64 0)) K w) (fun v16 w =>
  PickP v11 (Go.Value.bool true) v16 (fun v17 w =>
  CondP v17 (fun w =>
    R (Go.Value.int Go.IntKind.i64 1) w) (fun w =>
    LiftP Try.prog (Instr.fieldAt 47 v1 1) (fun v18 w =>
  LiftP Try.prog (Instr.loadAt 23 v18) (fun v19 w =>
  NextP Try.prog (builtin Go.Builtin.len #[23] 3 #[false] #[v19]) (fun v20 w =>
  LiftP Try.prog (binS Go.BinOp.gtr 3 (Go.Operand.tmp 20) (Go.Operand.const (Go.Value.int Go.IntKind.i64 2)) v20 (Go.Value.int Go.IntKind.i64 2)) (fun v21 w =>
  CondP v21 (fun w =>
    R (Go.Value.int Go.IntKind.i64 4) w) (fun w =>
    LoopP (fun J vs w =>   -- [3]
    LiftP Try.prog (Instr.fieldAt 47 v1 1) (fun v23 w =>
    LiftP Try.prog (Instr.loadAt 23 v23) (fun v24 w =>
    NextP Try.prog (builtin Go.Builtin.len #[23] 3 #[false] #[v24]) (fun v25 w =>
    LiftP Try.prog (binS Go.BinOp.lss 3 (Go.Operand.tmp 22) (Go.Operand.tmp 25) (vs.headD undef) v25) (fun v26 w =>
    CondP v26 (fun w =>
      DrawP (fun S w =>
    YieldP Try.prog S (Instr.fieldAt 47 v1 1) (fun v29 w =>
    YieldP Try.prog S (Instr.loadAt 23 v29) (fun v30 w =>
    YieldP Try.prog S (Instr.indexAt 23 v30 (vs.headD undef)) (fun v32 w =>
    YieldP Try.prog S (Instr.loadAt 3 v32) (fun v33 w =>
    YieldP Try.prog S (binS Go.BinOp.lss 3 (Go.Operand.tmp 33) (Go.Operand.const (Go.Value.int Go.IntKind.i64 0)) v33 (Go.Value.int Go.IntKind.i64 0)) (fun v34 w =>
    GuardP v34 false (fun K w => YieldP Try.prog S (Instr.fieldAt 47 v1 1) K w) (fun v36 w =>
    GuardP v34 false (fun K w => YieldP Try.prog S (Instr.loadAt 23 v36) K w) (fun v37 w =>
    GuardP v34 false (fun K w => K (vs.headD undef) w) (fun v38 w =>
    GuardP v34 false (fun K w => YieldP Try.prog S (Instr.indexAt 23 v37 v38) K w) (fun v39 w =>
    GuardP v34 false (fun K w => YieldP Try.prog S (Instr.loadAt 3 v39) K w) (fun v40 w =>
    GuardP v34 false (fun K w => YieldP Try.prog S (binS Go.BinOp.gtr 3 (Go.Operand.tmp 40) (Go.Operand.const (Go.Value.int Go.IntKind.i64 3)) v40 (Go.Value.int Go.IntKind.i64 3)) K w) (fun v41 w =>
    PickP v34 (Go.Value.bool true) v41 (fun v42 w =>
    GuardP v42 false (fun K w => K (vs.headD undef) w) (fun v44 w =>
    GuardP v42 false (fun K w => YieldP Try.prog S (binS Go.BinOp.eql 3 (Go.Operand.tmp 44) (Go.Operand.const (Go.Value.int Go.IntKind.i64 1)) v44 (Go.Value.int Go.IntKind.i64 1)) K w) (fun v45 w =>
    GuardP v42 false (fun K w => K v45 w) (fun v46 w =>
    GuardP v46 true (fun K w => YieldP Try.prog S (Instr.fieldAt 47 v1 1) K w) (fun v47 w =>
    GuardP v46 true (fun K w => YieldP Try.prog S (Instr.loadAt 23 v47) K w) (fun v48 w =>
    GuardP v46 true (fun K w => YieldP Try.prog S (Instr.indexAt 23 v48 (Go.Value.int Go.IntKind.i64 0)) K w) (fun v49 w =>
    GuardP v46 true (fun K w => YieldP Try.prog S (Instr.loadAt 3 v49) K w) (fun v50 w =>
    GuardP v46 true (fun K w => YieldP Try.prog S (Instr.fieldAt 47 v1 1) K w) (fun v51 w =>
    GuardP v46 true (fun K w => YieldP Try.prog S (Instr.loadAt 23 v51) K w) (fun v52 w =>
    GuardP v46 true (fun K w => YieldP Try.prog S (Instr.indexAt 23 v52 (Go.Value.int Go.IntKind.i64 1)) K w) (fun v53 w =>
    GuardP v46 true (fun K w => YieldP Try.prog S (Instr.loadAt 3 v53) K w) (fun v54 w =>
    GuardP v46 true (fun K w => YieldP Try.prog S (binS Go.BinOp.eql 3 (Go.Operand.tmp 50) (Go.Operand.tmp 54) v50 v54) K w) (fun v55 w =>
    GuardP v42 false (fun K w => PickP v46 v55 (Go.Value.bool false) K w) (fun v56 w =>
    PickP v42 (Go.Value.bool true) v56 (fun v57 w =>
    CondP v57 (fun w =>
      R (Go.Value.int Go.IntKind.i64 1) w) (fun w =>
      LiftP Try.prog (binS Go.BinOp.add 3 (Go.Operand.tmp 27) (Go.Operand.const (Go.Value.int Go.IntKind.i64 1)) (vs.headD undef) (Go.Value.int Go.IntKind.i64 1)) (fun v28 w =>
    J [v28] w) w) w) w) w) w) w) w) w) w) w) w) w) w) w) w) w) w) w) w) w) w) w) w) w) w) w) w) w) w) (fun w =>
      R (Go.Value.int Go.IntKind.i64 0) w) w) w) w) w) w) [(Go.Value.int Go.IntKind.i64 0)] w) w) w) w) w) w) w) w) w) w) w) w) w) w) w) w) w) w) w) w
theorem S34.calls (a0 : Value) (R : Value → World → Prop) (w : World) (h : S34 a0 R w) : Calls Try.prog 34 #[a0] w fun e w' => ∃ v, e = .returned v ∧ R v w' :=
  calls_of_tr (n := 58) (c := bodyOf Try.f34) (.two .leaf (.two (.two .leaf (.two (.two .leaf .leaf) .leaf)) (.two (.two .leaf (.two (.two .leaf .leaf) .leaf)) (.two (.two .leaf (.one (.loop [3] (.two (.two .leaf (.two .leaf .leaf)) (.two (.one (.two (.draw [(true, 0), (true, 1), (true, 2), (true, 3), (true, 4), (true, 5), (true, 6), (true, 7), (true, 8), (true, 9), (true, 10), (true, 11), (true, 12), (true, 13), (true, 14), (true, 15), (true, 16), (true, 17), (true, 18), (true, 19), (true, 20), (true, 21), (true, 22), (true, 23), (true, 24), (true, 25), (true, 26), (true, 27), (true, 28)]) (.two (.two .leaf .leaf) .leaf))) .leaf))))) (.two .leaf .leaf))))) Try.func34 (by kernel_rfl) Try.ntmps34 (by kernel_rfl) (by kernel_rfl) [a0] (by kernel_rfl) (of_eq_ (by kernel_rfl) h)

/-- (*shelfmark/shelfmarkref22.Board).State -/
def S35 (a0 a1 : Value) (R : Value → World → Prop) (w : World) : Prop :=
  LiftP Try.prog (binS Go.BinOp.lss 3 (Go.Operand.tmp 5) (Go.Operand.const (Go.Value.int Go.IntKind.i64 1)) a1 (Go.Value.int Go.IntKind.i64 1)) (fun v6 w =>
  GuardP v6 false (fun K w => K a1 w) (fun v8 w =>
  GuardP v6 false (fun K w => K a0 w) (fun v9 w =>
  GuardP v6 false (fun K w => NextP Try.prog (nilChk v9) K w) (fun v10 w =>
  GuardP v6 false (fun K w => LiftP Try.prog (Instr.fieldAt 42 v10 0) K w) (fun v11 w =>
  GuardP v6 false (fun K w => LiftP Try.prog (Instr.loadAt 40 v11) K w) (fun v12 w =>
  GuardP v6 false (fun K w => NextP Try.prog (builtin Go.Builtin.len #[40] 3 #[false] #[v12]) K w) (fun v13 w =>
  GuardP v6 false (fun K w => LiftP Try.prog (binS Go.BinOp.gtr 3 (Go.Operand.tmp 8) (Go.Operand.tmp 13) v8 v13) K w) (fun v14 w =>
  PickP v6 (Go.Value.bool true) v14 (fun v15 w =>
  CondP v15 (fun w =>
    R (Go.Value.int Go.IntKind.i64 0) w) (fun w =>
    NextP Try.prog (nilChk a0) (fun v17 w =>
  LiftP Try.prog (Instr.fieldAt 42 v17 0) (fun v18 w =>
  LiftP Try.prog (Instr.loadAt 40 v18) (fun v19 w =>
  LiftP Try.prog (binS Go.BinOp.sub 3 (Go.Operand.tmp 20) (Go.Operand.const (Go.Value.int Go.IntKind.i64 1)) a1 (Go.Value.int Go.IntKind.i64 1)) (fun v21 w =>
  LiftP Try.prog (Instr.indexAt 40 v19 v21) (fun v22 w =>
  LiftP Try.prog (Instr.fieldAt 78 v22 1) (fun v23 w =>
  LiftP Try.prog (Instr.loadAt 3 v23) (fun v24 w =>
  R v24 w) w) w) w) w) w) w) w) w) w) w) w) w) w) w) w) w) w
theorem S35.calls (a0 a1 : Value) (R : Value → World → Prop) (w : World) (h : S35 a0 a1 R w) : Calls Try.prog 35 #[a0, a1] w fun e w' => ∃ v, e = .returned v ∧ R v w' :=
  calls_of_tr (n := 25) (c := bodyOf Try.f35) (.two .leaf (.two (.two .leaf (.two (.two .leaf .leaf) .leaf)) (.two .leaf .leaf))) Try.func35 (by kernel_rfl) Try.ntmps35 (by kernel_rfl) (by kernel_rfl) [a0, a1] (by kernel_rfl) (of_eq_ (by kernel_rfl) h)

/-- shelfmark/shelfmarkref05.SameIndexes -/
def S38 (a0 a1 : Value) (R : Value → World → Prop) (w : World) : Prop :=
  NextP Try.prog (builtin Go.Builtin.len #[51] 3 #[false] #[a0]) (fun v8 w =>
  NextP Try.prog (builtin Go.Builtin.len #[51] 3 #[false] #[a1]) (fun v10 w =>
  LiftP Try.prog (binS Go.BinOp.neq 3 (Go.Operand.tmp 8) (Go.Operand.tmp 10) v8 v10) (fun v11 w =>
  CondP v11 (fun w =>
    R (Go.Value.bool false) w) (fun w =>
    LoopP (fun J vs w =>   -- [5]
    NextP Try.prog (builtin Go.Builtin.len #[51] 3 #[false] #[a0]) (fun v14 w =>
    LiftP Try.prog (binS Go.BinOp.lss 3 (Go.Operand.tmp 12) (Go.Operand.tmp 14) (vs.headD undef) v14) (fun v15 w =>
    CondP v15 (fun w =>
      DrawP (fun S w =>
    YieldP Try.prog S (Instr.indexAt 51 a0 (vs.headD undef)) (fun v20 w =>
    YieldP Try.prog S (Instr.fieldAt 47 v20 0) (fun v21 w =>
    YieldP Try.prog S (Instr.loadAt 3 v21) (fun v22 w =>
    YieldP Try.prog S (Instr.indexAt 51 a1 (vs.headD undef)) (fun v25 w =>
    YieldP Try.prog S (Instr.fieldAt 47 v25 0) (fun v26 w =>
    YieldP Try.prog S (Instr.loadAt 3 v26) (fun v27 w =>
    YieldP Try.prog S (binS Go.BinOp.neq 3 (Go.Operand.tmp 22) (Go.Operand.tmp 27) v22 v27) (fun v28 w =>
    GuardP v28 false (fun K w => K a0 w) (fun v30 w =>
    GuardP v28 false (fun K w => K (vs.headD undef) w) (fun v31 w =>
    GuardP v28 false (fun K w => YieldP Try.prog S (Instr.indexAt 51 v30 v31) K w) (fun v32 w =>
    GuardP v28 false (fun K w => YieldP Try.prog S (Instr.fieldAt 47 v32 1) K w) (fun v33 w =>
    GuardP v28 false (fun K w => YieldP Try.prog S (Instr.loadAt 23 v33) K w) (fun v34 w =>
    GuardP v28 false (fun K w => YieldN Try.prog S (builtin Go.Builtin.len #[23] 3 #[false] #[v34]) K w) (fun v35 w =>
    GuardP v28 false (fun K w => K a1 w) (fun v36 w =>
    GuardP v28 false (fun K w => K (vs.headD undef) w) (fun v37 w =>
    GuardP v28 false (fun K w => YieldP Try.prog S (Instr.indexAt 51 v36 v37) K w) (fun v38 w =>
    GuardP v28 false (fun K w => YieldP Try.prog S (Instr.fieldAt 47 v38 1) K w) (fun v39 w =>
    GuardP v28 false (fun K w => YieldP Try.prog S (Instr.loadAt 23 v39) K w) (fun v40 w =>
    GuardP v28 false (fun K w => YieldN Try.prog S (builtin Go.Builtin.len #[23] 3 #[false] #[v40]) K w) (fun v41 w =>
    GuardP v28 false (fun K w => YieldP Try.prog S (binS Go.BinOp.neq 3 (Go.Operand.tmp 35) (Go.Operand.tmp 41) v35 v41) K w) (fun v42 w =>
    PickP v28 (Go.Value.bool true) v42 (fun v43 w =>
    CondP v43 (fun w =>
      R (Go.Value.bool false) w) (fun w =>
      LoopP (fun J_1 vs_1 w =>   -- [6]
      LiftP Try.prog (Instr.indexAt 51 a0 (vs.headD undef)) (fun v47 w =>
      LiftP Try.prog (Instr.fieldAt 47 v47 1) (fun v48 w =>
      LiftP Try.prog (Instr.loadAt 23 v48) (fun v49 w =>
      NextP Try.prog (builtin Go.Builtin.len #[23] 3 #[false] #[v49]) (fun v50 w =>
      LiftP Try.prog (binS Go.BinOp.lss 3 (Go.Operand.tmp 44) (Go.Operand.tmp 50) (vs_1.headD undef) v50) (fun v51 w =>
      CondP v51 (fun w =>
        DrawP (fun S w =>
      YieldP Try.prog S (Instr.indexAt 51 a0 (vs.headD undef)) (fun v56 w =>
      YieldP Try.prog S (Instr.fieldAt 47 v56 1) (fun v57 w =>
      YieldP Try.prog S (Instr.loadAt 23 v57) (fun v58 w =>
      YieldP Try.prog S (Instr.indexAt 23 v58 (vs_1.headD undef)) (fun v60 w =>
      YieldP Try.prog S (Instr.loadAt 3 v60) (fun v61 w =>
      YieldP Try.prog S (Instr.indexAt 51 a1 (vs.headD undef)) (fun v64 w =>
      YieldP Try.prog S (Instr.fieldAt 47 v64 1) (fun v65 w =>
      YieldP Try.prog S (Instr.loadAt 23 v65) (fun v66 w =>
      YieldP Try.prog S (Instr.indexAt 23 v66 (vs_1.headD undef)) (fun v68 w =>
      YieldP Try.prog S (Instr.loadAt 3 v68) (fun v69 w =>
      YieldP Try.prog S (binS Go.BinOp.neq 3 (Go.Operand.tmp 61) (Go.Operand.tmp 69) v61 v69) (fun v70 w =>
      CondP v70 (fun w =>
        R (Go.Value.bool false) w) (fun w =>
        LiftP Try.prog (binS Go.BinOp.add 3 (Go.Operand.tmp 52) (Go.Operand.const (Go.Value.int Go.IntKind.i64 1)) (vs_1.headD undef) (Go.Value.int Go.IntKind.i64 1)) (fun v53 w =>
      J_1 [v53] w) w) w) w) w) w) w) w) w) w) w) w) w) w) w) (fun w =>
        LiftP Try.prog (binS Go.BinOp.add 3 (Go.Operand.tmp 16) (Go.Operand.const (Go.Value.int Go.IntKind.i64 1)) (vs.headD undef) (Go.Value.int Go.IntKind.i64 1)) (fun v17 w =>
    J [v17] w) w) w) w) w) w) w) w) [(Go.Value.int Go.IntKind.i64 0)] w) w) w) w) w) w) w) w) w) w) w) w) w) w) w) w) w) w) w) w) w) w) w) w) (fun w =>
      R (Go.Value.bool true) w) w) w) w) [(Go.Value.int Go.IntKind.i64 0)] w) w) w) w) w
theorem S38.calls (a0 a1 : Value) (R : Value → World → Prop) (w : World) (h : S38 a0 a1 R w) : Calls Try.prog 38 #[a0, a1] w fun e w' => ∃ v, e = .returned v ∧ R v w' :=
  calls_of_tr (n := 71) (c := bodyOf Try.f38) (.two .leaf (.two (.two .leaf (.two (.two .leaf .leaf) .leaf)) (.two (.two .leaf (.one (.loop [5] (.two (.two .leaf (.two .leaf .leaf)) (.two (.one (.two (.two (.draw [(true, 0), (true, 1), (true, 2), (true, 3), (true, 4), (true, 5), (true, 6), (true, 7), (true, 8), (true, 9), (true, 10), (true, 11), (true, 12), (true, 13), (true, 14), (true, 15), (true, 16), (true, 17), (true, 18), (true, 19), (true, 20), (true, 21), (true, 22), (true, 23), (true, 24), (true, 25)]) (.two (.two .leaf .leaf) .leaf)) (.two .leaf (.one (.loop [6] (.two (.two .leaf (.two .leaf .leaf)) (.two (.one (.two (.draw [(true, 0), (true, 1), (true, 2), (true, 3), (true, 4), (true, 5), (true, 6), (true, 7), (true, 8), (true, 9), (true, 10), (true, 11), (true, 12), (true, 13), (true, 14), (true, 15), (true, 16)]) (.two (.two .leaf .leaf) .leaf))) .leaf))))))) .leaf))))) (.two .leaf .leaf)))) Try.func38 (by kernel_rfl) Try.ntmps38 (by kernel_rfl) (by kernel_rfl) [a0, a1] (by kernel_rfl) (of_eq_ (by kernel_rfl) h)

/-- (*shelfmark/shelfmarkref22.Board).There -/
def S39 (a0 : Value) (R : Value → World → Prop) (w : World) : Prop :=
  LoopP (fun J vs w =>   -- [3, 4]
    NextP Try.prog (nilChk a0) (fun v7 w =>
    LiftP Try.prog (Instr.fieldAt 42 v7 0) (fun v8 w =>
    LiftP Try.prog (Instr.loadAt 40 v8) (fun v9 w =>
    NextP Try.prog (builtin Go.Builtin.len #[40] 3 #[false] #[v9]) (fun v10 w =>
    LiftP Try.prog (binS Go.BinOp.lss 3 (Go.Operand.tmp 5) (Go.Operand.tmp 10) (vs.tail.headD undef) v10) (fun v11 w =>
    CondP v11 (fun w =>
      JoinP (fun J_1 w =>
      NextP Try.prog (nilChk a0) (fun v15 w =>
      LiftP Try.prog (Instr.fieldAt 42 v15 0) (fun v16 w =>
      LiftP Try.prog (Instr.loadAt 40 v16) (fun v17 w =>
      LiftP Try.prog (Instr.indexAt 40 v17 (vs.tail.headD undef)) (fun v19 w =>
      LiftP Try.prog (Instr.fieldAt 78 v19 1) (fun v20 w =>
      LiftP Try.prog (Instr.loadAt 3 v20) (fun v21 w =>
      LiftP Try.prog (binS Go.BinOp.lss 3 (Go.Operand.tmp 21) (Go.Operand.const (Go.Value.int Go.IntKind.i64 3)) v21 (Go.Value.int Go.IntKind.i64 3)) (fun v22 w =>
      CondP v22 (fun w =>
        LiftP Try.prog (binS Go.BinOp.add 3 (Go.Operand.tmp 24) (Go.Operand.const (Go.Value.int Go.IntKind.i64 1)) (vs.tail.headD undef) (Go.Value.int Go.IntKind.i64 1)) (fun v25 w =>
        NextP Try.prog (nilChk a0) (fun v27 w =>
        LiftP Try.prog (Instr.fieldAt 42 v27 0) (fun v28 w =>
        LiftP Try.prog (Instr.loadAt 40 v28) (fun v29 w =>
        LiftP Try.prog (Instr.indexAt 40 v29 (vs.tail.headD undef)) (fun v31 w =>
        LiftP Try.prog (Instr.fieldAt 78 v31 0) (fun v32 w =>
        LiftP Try.prog (Instr.loadAt 23 v32) (fun v33 w =>
        LiftP Try.prog (Instr.build 47 #[(0, v25), (1, v33)]) (fun v34 w =>
        LiftP Try.prog (Instr.buildSlice 51 1 #[(0, v34)]) (fun v35 w =>
        NextP Try.prog (builtin Go.Builtin.append #[51, 51] 51 #[false, false] #[(vs.headD undef), v35]) (fun v36 w =>
        J_1 [v36] w) w) w) w) w) w) w) w) w) w) w) (fun w =>
        J_1 [(vs.headD undef)] w) w) w) w) w) w) w) w) w) (fun vs_1 w =>   -- [3]
    LiftP Try.prog (binS Go.BinOp.add 3 (Go.Operand.tmp 12) (Go.Operand.const (Go.Value.int Go.IntKind.i64 1)) (vs.tail.headD undef) (Go.Value.int Go.IntKind.i64 1)) (fun v13 w =>
    J [(vs_1.headD undef), v13] w) w) w) (fun w =>
      R (vs.headD undef) w) w) w) w) w) w) w) [(Go.Value.slice none 0 0), (Go.Value.int Go.IntKind.i64 0)] w
theorem S39.calls (a0 : Value) (R : Value → World → Prop) (w : World) (h : S39 a0 R w) : Calls Try.prog 39 #[a0] w fun e w' => ∃ v, e = .returned v ∧ R v w' :=
  calls_of_tr (n := 38) (c := bodyOf Try.f39) (.two .leaf (.two .leaf (.two (.two .leaf (.one (.loop [3, 4] (.two (.two .leaf (.two .leaf .leaf)) (.join [3] (.one (.two .leaf (.two .leaf .leaf))) .leaf))))) (.two .leaf .leaf)))) Try.func39 (by kernel_rfl) Try.ntmps39 (by kernel_rfl) (by kernel_rfl) [a0] (by kernel_rfl) (of_eq_ (by kernel_rfl) h)

/-- shelfmark/shelfmarkref14.SameInts -/
def S40 (a0 a1 : Value) (R : Value → World → Prop) (w : World) : Prop :=
  NextP Try.prog (builtin Go.Builtin.len #[23] 3 #[false] #[a0]) (fun v7 w =>
  NextP Try.prog (builtin Go.Builtin.len #[23] 3 #[false] #[a1]) (fun v9 w =>
  LiftP Try.prog (binS Go.BinOp.neq 3 (Go.Operand.tmp 7) (Go.Operand.tmp 9) v7 v9) (fun v10 w =>
  CondP v10 (fun w =>
    R (Go.Value.bool false) w) (fun w =>
    LoopP (fun J vs w =>   -- [5]
    NextP Try.prog (builtin Go.Builtin.len #[23] 3 #[false] #[a0]) (fun v13 w =>
    LiftP Try.prog (binS Go.BinOp.lss 3 (Go.Operand.tmp 11) (Go.Operand.tmp 13) (vs.headD undef) v13) (fun v14 w =>
    CondP v14 (fun w =>
      DrawP (fun S w =>
    YieldP Try.prog S (Instr.indexAt 23 a0 (vs.headD undef)) (fun v19 w =>
    YieldP Try.prog S (Instr.loadAt 3 v19) (fun v20 w =>
    YieldP Try.prog S (Instr.indexAt 23 a1 (vs.headD undef)) (fun v23 w =>
    YieldP Try.prog S (Instr.loadAt 3 v23) (fun v24 w =>
    YieldP Try.prog S (binS Go.BinOp.neq 3 (Go.Operand.tmp 20) (Go.Operand.tmp 24) v20 v24) (fun v25 w =>
    CondP v25 (fun w =>
      R (Go.Value.bool false) w) (fun w =>
      LiftP Try.prog (binS Go.BinOp.add 3 (Go.Operand.tmp 15) (Go.Operand.const (Go.Value.int Go.IntKind.i64 1)) (vs.headD undef) (Go.Value.int Go.IntKind.i64 1)) (fun v16 w =>
    J [v16] w) w) w) w) w) w) w) w) w) (fun w =>
      R (Go.Value.bool true) w) w) w) w) [(Go.Value.int Go.IntKind.i64 0)] w) w) w) w) w
theorem S40.calls (a0 a1 : Value) (R : Value → World → Prop) (w : World) (h : S40 a0 a1 R w) : Calls Try.prog 40 #[a0, a1] w fun e w' => ∃ v, e = .returned v ∧ R v w' :=
  calls_of_tr (n := 26) (c := bodyOf Try.f40) (.two .leaf (.two (.two .leaf (.two (.two .leaf .leaf) .leaf)) (.two (.two .leaf (.one (.loop [5] (.two (.two .leaf (.two .leaf .leaf)) (.two (.one (.two (.draw [(true, 0), (true, 1), (true, 2), (true, 3), (true, 4), (true, 5), (true, 6), (true, 7), (true, 8)]) (.two (.two .leaf .leaf) .leaf))) .leaf))))) (.two .leaf .leaf)))) Try.func40 (by kernel_rfl) Try.ntmps40 (by kernel_rfl) (by kernel_rfl) [a0, a1] (by kernel_rfl) (of_eq_ (by kernel_rfl) h)

/-- (*shelfmark/shelfmarkref22.Board).Gone -/
def S41 (a0 : Value) (R : Value → World → Prop) (w : World) : Prop :=
  LoopP (fun J vs w =>   -- [3, 4]
    NextP Try.prog (nilChk a0) (fun v7 w =>
    LiftP Try.prog (Instr.fieldAt 42 v7 0) (fun v8 w =>
    LiftP Try.prog (Instr.loadAt 40 v8) (fun v9 w =>
    NextP Try.prog (builtin Go.Builtin.len #[40] 3 #[false] #[v9]) (fun v10 w =>
    LiftP Try.prog (binS Go.BinOp.lss 3 (Go.Operand.tmp 5) (Go.Operand.tmp 10) (vs.tail.headD undef) v10) (fun v11 w =>
    CondP v11 (fun w =>
      JoinP (fun J_1 w =>
      NextP Try.prog (nilChk a0) (fun v15 w =>
      LiftP Try.prog (Instr.fieldAt 42 v15 0) (fun v16 w =>
      LiftP Try.prog (Instr.loadAt 40 v16) (fun v17 w =>
      LiftP Try.prog (Instr.indexAt 40 v17 (vs.tail.headD undef)) (fun v19 w =>
      LiftP Try.prog (Instr.fieldAt 78 v19 1) (fun v20 w =>
      LiftP Try.prog (Instr.loadAt 3 v20) (fun v21 w =>
      LiftP Try.prog (binS Go.BinOp.eql 3 (Go.Operand.tmp 21) (Go.Operand.const (Go.Value.int Go.IntKind.i64 3)) v21 (Go.Value.int Go.IntKind.i64 3)) (fun v22 w =>
      CondP v22 (fun w =>
        LiftP Try.prog (binS Go.BinOp.add 3 (Go.Operand.tmp 24) (Go.Operand.const (Go.Value.int Go.IntKind.i64 1)) (vs.tail.headD undef) (Go.Value.int Go.IntKind.i64 1)) (fun v25 w =>
        LiftP Try.prog (Instr.buildSlice 23 1 #[(0, v25)]) (fun v26 w =>
        NextP Try.prog (builtin Go.Builtin.append #[23, 23] 23 #[false, false] #[(vs.headD undef), v26]) (fun v27 w =>
        J_1 [v27] w) w) w) w) (fun w =>
        J_1 [(vs.headD undef)] w) w) w) w) w) w) w) w) w) (fun vs_1 w =>   -- [3]
    LiftP Try.prog (binS Go.BinOp.add 3 (Go.Operand.tmp 12) (Go.Operand.const (Go.Value.int Go.IntKind.i64 1)) (vs.tail.headD undef) (Go.Value.int Go.IntKind.i64 1)) (fun v13 w =>
    J [(vs_1.headD undef), v13] w) w) w) (fun w =>
      R (vs.headD undef) w) w) w) w) w) w) w) [(Go.Value.slice none 0 0), (Go.Value.int Go.IntKind.i64 0)] w
theorem S41.calls (a0 : Value) (R : Value → World → Prop) (w : World) (h : S41 a0 R w) : Calls Try.prog 41 #[a0] w fun e w' => ∃ v, e = .returned v ∧ R v w' :=
  calls_of_tr (n := 29) (c := bodyOf Try.f41) (.two .leaf (.two .leaf (.two (.two .leaf (.one (.loop [3, 4] (.two (.two .leaf (.two .leaf .leaf)) (.join [3] (.one (.two .leaf (.two .leaf .leaf))) .leaf))))) (.two .leaf .leaf)))) Try.func41 (by kernel_rfl) Try.ntmps41 (by kernel_rfl) (by kernel_rfl) [a0] (by kernel_rfl) (of_eq_ (by kernel_rfl) h)

/-- (*shelfmark/shelfmarkref22.Board).Left -/
def S43 (a0 a1 : Value) (R : Value → World → Prop) (w : World) : Prop :=
  CallP Try.prog 35 #[a0, a1] (fun v9 w =>
  LiftP Try.prog (binS Go.BinOp.neq 3 (Go.Operand.tmp 9) (Go.Operand.const (Go.Value.int Go.IntKind.i64 1)) v9 (Go.Value.int Go.IntKind.i64 1)) (fun v10 w =>
  CondP v10 (fun w =>
    R (Go.Value.slice none 0 0) w) (fun w =>
    LiftP Try.prog (Instr.build 32 #[]) (fun v11 w =>
  LiftP Try.prog (Instr.buildSlice 22 1 #[(0, v11)]) (fun v12 w =>
  LoopP (fun J vs w =>   -- [5, 6]
    NextP Try.prog (nilChk a0) (fun v15 w =>
    LiftP Try.prog (Instr.fieldAt 42 v15 0) (fun v16 w =>
    LiftP Try.prog (Instr.loadAt 40 v16) (fun v17 w =>
    LiftP Try.prog (binS Go.BinOp.sub 3 (Go.Operand.tmp 18) (Go.Operand.const (Go.Value.int Go.IntKind.i64 1)) a1 (Go.Value.int Go.IntKind.i64 1)) (fun v19 w =>
    LiftP Try.prog (Instr.indexAt 40 v17 v19) (fun v20 w =>
    LiftP Try.prog (Instr.fieldAt 78 v20 2) (fun v21 w =>
    LiftP Try.prog (Instr.loadAt 22 v21) (fun v22 w =>
    NextP Try.prog (builtin Go.Builtin.len #[22] 3 #[false] #[v22]) (fun v23 w =>
    LiftP Try.prog (binS Go.BinOp.lss 3 (Go.Operand.tmp 13) (Go.Operand.tmp 23) (vs.tail.headD undef) v23) (fun v24 w =>
    CondP v24 (fun w =>
      NextP Try.prog (nilChk a0) (fun v29 w =>
    LiftP Try.prog (Instr.fieldAt 42 v29 0) (fun v30 w =>
    LiftP Try.prog (Instr.loadAt 40 v30) (fun v31 w =>
    LiftP Try.prog (binS Go.BinOp.sub 3 (Go.Operand.tmp 32) (Go.Operand.const (Go.Value.int Go.IntKind.i64 1)) a1 (Go.Value.int Go.IntKind.i64 1)) (fun v33 w =>
    LiftP Try.prog (Instr.indexAt 40 v31 v33) (fun v34 w =>
    LiftP Try.prog (Instr.fieldAt 78 v34 2) (fun v35 w =>
    LiftP Try.prog (Instr.loadAt 22 v35) (fun v36 w =>
    LiftP Try.prog (Instr.indexAt 22 v36 (vs.tail.headD undef)) (fun v38 w =>
    LiftP Try.prog (Instr.loadAt 32 v38) (fun v39 w =>
    CallP Try.prog 59 #[(vs.headD undef), v39] (fun v40 w =>
    LiftP Try.prog (binS Go.BinOp.add 3 (Go.Operand.tmp 25) (Go.Operand.const (Go.Value.int Go.IntKind.i64 1)) (vs.tail.headD undef) (Go.Value.int Go.IntKind.i64 1)) (fun v26 w =>
    J [v40, v26] w) w) w) w) w) w) w) w) w) w) w) w) (fun w =>
      R (vs.headD undef) w) w) w) w) w) w) w) w) w) w) w) [v12, (Go.Value.int Go.IntKind.i64 0)] w) w) w) w) w) w
theorem S43.calls (a0 a1 : Value) (R : Value → World → Prop) (w : World) (h : S43 a0 a1 R w) : Calls Try.prog 43 #[a0, a1] w fun e w' => ∃ v, e = .returned v ∧ R v w' :=
  calls_of_tr (n := 42) (c := bodyOf Try.f43) (.two .leaf (.two (.two .leaf (.two (.two .leaf .leaf) .leaf)) (.two .leaf (.two (.two .leaf (.one (.loop [5, 6] (.two (.two .leaf (.two .leaf .leaf)) (.two (.one .leaf) .leaf))))) (.two .leaf .leaf))))) Try.func43 (by kernel_rfl) Try.ntmps43 (by kernel_rfl) (by kernel_rfl) [a0, a1] (by kernel_rfl) (of_eq_ (by kernel_rfl) h)

/-- (*shelfmark/board.reader).num -/
def S44 (a0 a1 : Value) (R : Value → World → Prop) (w : World) : Prop :=
  NextP Try.prog (nilChk a0) (fun v9 w =>
  LiftP Try.prog (Instr.fieldAt 86 v9 2) (fun v10 w =>
  LiftP Try.prog (Instr.loadAt 4 v10) (fun v11 w =>
  CondP v11 (fun w =>
    R (Go.Value.int Go.IntKind.i64 0) w) (fun w =>
    DrawP (fun S w =>
  YieldN Try.prog S (nilChk a0) (fun v14 w =>
  YieldP Try.prog S (Instr.fieldAt 86 v14 0) (fun v15 w =>
  YieldP Try.prog S (Instr.loadAt 84 v15) (fun v16 w =>
  YieldN Try.prog S (nilChk a0) (fun v18 w =>
  YieldP Try.prog S (Instr.fieldAt 86 v18 1) (fun v19 w =>
  YieldP Try.prog S (Instr.loadAt 3 v19) (fun v20 w =>
  ActP S (fun K w => CallP Try.prog 60 #[v16, v20] K w) (fun S v21 w =>
  YieldP Try.prog S (Instr.extract v21 0) (fun v22 w =>
  YieldP Try.prog S (Instr.extract v21 1) (fun v23 w =>
  YieldP Try.prog S (Instr.extract v21 2) (fun v24 w =>
  LiftP Try.prog (binS Go.BinOp.neq 28 (Go.Operand.tmp 28) (Go.Operand.const (Go.Value.int Go.IntKind.i64 0)) v24 (Go.Value.int Go.IntKind.i64 0)) (fun v29 w =>
  GuardP v29 false (fun K w => K v22 w) (fun v31 w =>
  GuardP v29 false (fun K w => K a1 w) (fun v32 w =>
  GuardP v29 false (fun K w => LiftP Try.prog (binS Go.BinOp.gtr 3 (Go.Operand.tmp 31) (Go.Operand.tmp 32) v31 v32) K w) (fun v33 w =>
  PickP v29 (Go.Value.bool true) v33 (fun v34 w =>
  NextP Try.prog (nilChk a0) (fun v35 w =>
  LiftP Try.prog (Instr.fieldAt 86 v35 1) (fun v36 w =>
  LiftU Try.prog (Instr.storeAt 3 v36 v23) (fun v_ w =>
  NextP Try.prog (nilChk a0) (fun v37 w =>
  LiftP Try.prog (Instr.fieldAt 86 v37 2) (fun v38 w =>
  LiftU Try.prog (Instr.storeAt 4 v38 v34) (fun v__1 w =>
  R v22 w) w) w) w) w) w) w) w) w) w) w) w) w) w) w) w) w) w) w) w) w) w) w) w) w) w) w
theorem S44.calls (a0 a1 : Value) (R : Value → World → Prop) (w : World) (h : S44 a0 a1 R w) : Calls Try.prog 44 #[a0, a1] w fun e w' => ∃ v, e = .returned v ∧ R v w' :=
  calls_of_tr (n := 40) (c := bodyOf Try.f44) (.two .leaf (.two (.two .leaf (.two (.two .leaf .leaf) .leaf)) (.two (.draw [(true, 0), (true, 1), (true, 2), (true, 3), (true, 4), (true, 5), (true, 6), (true, 7), (false, 8), (true, 9), (true, 10), (true, 11), (true, 12), (true, 13), (true, 14), (true, 15)]) (.two .leaf (.two .leaf .leaf))))) Try.func44 (by kernel_rfl) Try.ntmps44 (by kernel_rfl) (by kernel_rfl) [a0, a1] (by kernel_rfl) (of_eq_ (by kernel_rfl) h)

/-- (*shelfmark/board.reader).texts -/
def S45 (a0 : Value) (R : Value → World → Prop) (w : World) : Prop :=
  NextP Try.prog (nilChk a0) (fun v7 w =>
  LiftP Try.prog (Instr.fieldAt 86 v7 2) (fun v8 w =>
  LiftP Try.prog (Instr.loadAt 4 v8) (fun v9 w =>
  CondP v9 (fun w =>
    R (Go.Value.slice none 0 0) w) (fun w =>
    DrawP (fun S w =>
  YieldN Try.prog S (nilChk a0) (fun v12 w =>
  YieldP Try.prog S (Instr.fieldAt 86 v12 0) (fun v13 w =>
  YieldP Try.prog S (Instr.loadAt 84 v13) (fun v14 w =>
  YieldN Try.prog S (nilChk a0) (fun v16 w =>
  YieldP Try.prog S (Instr.fieldAt 86 v16 1) (fun v17 w =>
  YieldP Try.prog S (Instr.loadAt 3 v17) (fun v18 w =>
  YieldN Try.prog S (nilChk a0) (fun v20 w =>
  YieldP Try.prog S (Instr.fieldAt 86 v20 0) (fun v21 w =>
  YieldP Try.prog S (Instr.loadAt 84 v21) (fun v22 w =>
  YieldN Try.prog S (builtin Go.Builtin.len #[84] 3 #[false] #[v22]) (fun v23 w =>
  YieldN Try.prog S (nilChk a0) (fun v25 w =>
  YieldP Try.prog S (Instr.fieldAt 86 v25 0) (fun v26 w =>
  YieldP Try.prog S (Instr.loadAt 84 v26) (fun v27 w =>
  YieldN Try.prog S (builtin Go.Builtin.len #[84] 3 #[false] #[v27]) (fun v28 w =>
  ActP S (fun K w => CallP Try.prog 61 #[v14, v18, v23, v28] K w) (fun S v29 w =>
  YieldP Try.prog S (Instr.extract v29 0) (fun v30 w =>
  YieldP Try.prog S (Instr.extract v29 1) (fun v31 w =>
  YieldP Try.prog S (Instr.extract v29 2) (fun v32 w =>
  LiftP Try.prog (binS Go.BinOp.neq 28 (Go.Operand.tmp 36) (Go.Operand.const (Go.Value.int Go.IntKind.i64 0)) v32 (Go.Value.int Go.IntKind.i64 0)) (fun v37 w =>
  NextP Try.prog (nilChk a0) (fun v38 w =>
  LiftP Try.prog (Instr.fieldAt 86 v38 1) (fun v39 w =>
  LiftU Try.prog (Instr.storeAt 3 v39 v31) (fun v_ w =>
  NextP Try.prog (nilChk a0) (fun v40 w =>
  LiftP Try.prog (Instr.fieldAt 86 v40 2) (fun v41 w =>
  LiftU Try.prog (Instr.storeAt 4 v41 v37) (fun v__1 w =>
  R v30 w) w) w) w) w) w) w) w) w) w) w) w) w) w) w) w) w) w) w) w) w) w) w) w) w) w) w) w) w) w) w
theorem S45.calls (a0 : Value) (R : Value → World → Prop) (w : World) (h : S45 a0 R w) : Calls Try.prog 45 #[a0] w fun e w' => ∃ v, e = .returned v ∧ R v w' :=
  calls_of_tr (n := 43) (c := bodyOf Try.f45) (.two .leaf (.two (.two .leaf (.two (.two .leaf .leaf) .leaf)) (.two (.draw [(true, 0), (true, 1), (true, 2), (true, 3), (true, 4), (true, 5), (true, 6), (true, 7), (true, 8), (true, 9), (true, 10), (true, 11), (true, 12), (true, 13), (true, 14), (true, 15), (true, 16), (true, 17), (false, 18), (true, 19), (true, 20), (true, 21), (true, 22), (true, 23), (true, 24), (true, 25)]) (.two .leaf (.two .leaf .leaf))))) Try.func45 (by kernel_rfl) Try.ntmps45 (by kernel_rfl) (by kernel_rfl) [a0] (by kernel_rfl) (of_eq_ (by kernel_rfl) h)

/-- slices.Equal[[]shelfmark/api.Range,shelfmark/api.Range] -/
def S46 (a0 a1 : Value) (R : Value → World → Prop) (w : World) : Prop :=
  NextP Try.prog (builtin Go.Builtin.len #[22] 3 #[false] #[a0]) (fun v7 w =>
  NextP Try.prog (builtin Go.Builtin.len #[22] 3 #[false] #[a1]) (fun v9 w =>
  LiftP Try.prog (binS Go.BinOp.neq 3 (Go.Operand.tmp 7) (Go.Operand.tmp 9) v7 v9) (fun v10 w =>
  CondP v10 (fun w =>
    R (Go.Value.bool false) w) (fun w =>
    NextP Try.prog (builtin Go.Builtin.len #[22] 3 #[false] #[a0]) (fun v12 w =>
  LoopP (fun J vs w =>   -- [13]
    LiftP Try.prog (binS Go.BinOp.lss 3 (Go.Operand.tmp 13) (Go.Operand.tmp 12) (vs.headD undef) v12) (fun v14 w =>
    CondP v14 (fun w =>
      DrawP (fun S w =>
    YieldP Try.prog S (Instr.indexAt 22 a0 (vs.headD undef)) (fun v18 w =>
    YieldP Try.prog S (Instr.loadAt 32 v18) (fun v19 w =>
    YieldP Try.prog S (Instr.indexAt 22 a1 (vs.headD undef)) (fun v22 w =>
    YieldP Try.prog S (Instr.loadAt 32 v22) (fun v23 w =>
    YieldP Try.prog S (binS Go.BinOp.neq 32 (Go.Operand.tmp 19) (Go.Operand.tmp 23) v19 v23) (fun v24 w =>
    CondP v24 (fun w =>
      R (Go.Value.bool false) w) (fun w =>
      LiftP Try.prog (binS Go.BinOp.add 3 (Go.Operand.tmp 13) (Go.Operand.const (Go.Value.int Go.IntKind.i64 1)) (vs.headD undef) (Go.Value.int Go.IntKind.i64 1)) (fun v25 w =>
    J [v25] w) w) w) w) w) w) w) w) w) (fun w =>
      R (Go.Value.bool true) w) w) w) [(Go.Value.int Go.IntKind.i64 0)] w) w) w) w) w) w
theorem S46.calls (a0 a1 : Value) (R : Value → World → Prop) (w : World) (h : S46 a0 a1 R w) : Calls Try.prog 46 #[a0, a1] w fun e w' => ∃ v, e = .returned v ∧ R v w' :=
  calls_of_tr (n := 26) (c := bodyOf Try.f46) (.two .leaf (.two (.two .leaf (.two (.two .leaf .leaf) .leaf)) (.two (.two .leaf (.one (.loop [13] (.two .leaf (.two (.two .leaf .leaf) (.two (.one (.two .leaf (.two (.draw [(true, 0), (true, 1), (true, 2), (true, 3), (true, 4), (true, 5), (true, 6), (true, 7), (true, 8)]) (.two (.two .leaf .leaf) .leaf)))) .leaf)))))) (.two .leaf .leaf)))) Try.func46 (by kernel_rfl) Try.ntmps46 (by kernel_rfl) (by kernel_rfl) [a0, a1] (by kernel_rfl) (of_eq_ (by kernel_rfl) h)

/-- shelfmark/record.first -/
def S51 (a0 : Value) (R : Value → World → Prop) (w : World) : Prop :=
  NextP Try.prog (builtin Go.Builtin.len #[113] 3 #[false] #[a0]) (fun v6 w =>
  LoopP (fun J vs w =>   -- [7]
    LiftP Try.prog (binS Go.BinOp.lss 3 (Go.Operand.tmp 7) (Go.Operand.tmp 6) (vs.headD undef) v6) (fun v8 w =>
    CondP v8 (fun w =>
      LiftP Try.prog (Instr.indexAt 113 a0 (vs.headD undef)) (fun v9 w =>
    LiftP Try.prog (Instr.loadAt 28 v9) (fun v10 w =>
    LiftP Try.prog (binS Go.BinOp.neq 28 (Go.Operand.tmp 11) (Go.Operand.const (Go.Value.int Go.IntKind.i64 0)) v10 (Go.Value.int Go.IntKind.i64 0)) (fun v12 w =>
    CondP v12 (fun w =>
      R v10 w) (fun w =>
      LiftP Try.prog (binS Go.BinOp.add 3 (Go.Operand.tmp 7) (Go.Operand.const (Go.Value.int Go.IntKind.i64 1)) (vs.headD undef) (Go.Value.int Go.IntKind.i64 1)) (fun v14 w =>
    J [v14] w) w) w) w) w) w) (fun w =>
      R (Go.Value.int Go.IntKind.i64 0) w) w) w) [(Go.Value.int Go.IntKind.i64 0)] w) w
theorem S51.calls (a0 : Value) (R : Value → World → Prop) (w : World) (h : S51 a0 R w) : Calls Try.prog 51 #[a0] w fun e w' => ∃ v, e = .returned v ∧ R v w' :=
  calls_of_tr (n := 15) (c := bodyOf Try.f51) (.two .leaf (.two (.two .leaf (.one (.loop [7] (.two .leaf (.two (.two .leaf .leaf) (.two (.one (.two .leaf (.two .leaf (.two (.two .leaf .leaf) .leaf)))) .leaf)))))) (.two .leaf .leaf))) Try.func51 (by kernel_rfl) Try.ntmps51 (by kernel_rfl) (by kernel_rfl) [a0] (by kernel_rfl) (of_eq_ (by kernel_rfl) h)

/-- shelfmark/record.when -/
def S52 (a0 a1 : Value) (R : Value → World → Prop) (w : World) : Prop :=
  CondP a0 (fun w =>
    R a1 w) (fun w =>
    R (Go.Value.int Go.IntKind.i64 0) w) w
theorem S52.calls (a0 a1 : Value) (R : Value → World → Prop) (w : World) (h : S52 a0 a1 R w) : Calls Try.prog 52 #[a0, a1] w fun e w' => ∃ v, e = .returned v ∧ R v w' :=
  calls_of_tr (n := 7) (c := bodyOf Try.f52) (.two .leaf (.two (.two .leaf (.two (.two .leaf .leaf) .leaf)) (.two .leaf .leaf))) Try.func52 (by kernel_rfl) Try.ntmps52 (by kernel_rfl) (by kernel_rfl) [a0, a1] (by kernel_rfl) (of_eq_ (by kernel_rfl) h)

/-- shelfmark/record.number -/
def S53 (a0 : Value) (R : Value → World → Prop) (w : World) : Prop :=
  LiftP Try.prog (binS Go.BinOp.geq 3 (Go.Operand.tmp 3) (Go.Operand.const (Go.Value.int Go.IntKind.i64 1)) a0 (Go.Value.int Go.IntKind.i64 1)) (fun v4 w =>
  GuardP v4 true (fun K w => K a0 w) (fun v6 w =>
  GuardP v4 true (fun K w => LiftP Try.prog (binS Go.BinOp.leq 3 (Go.Operand.tmp 6) (Go.Operand.const (Go.Value.int Go.IntKind.i64 6)) v6 (Go.Value.int Go.IntKind.i64 6)) K w) (fun v7 w =>
  PickP v4 v7 (Go.Value.bool false) (fun v8 w =>
  R v8 w) w) w) w) w
theorem S53.calls (a0 : Value) (R : Value → World → Prop) (w : World) (h : S53 a0 R w) : Calls Try.prog 53 #[a0] w fun e w' => ∃ v, e = .returned v ∧ R v w' :=
  calls_of_tr (n := 9) (c := bodyOf Try.f53) (.two .leaf (.two .leaf .leaf)) Try.func53 (by kernel_rfl) Try.ntmps53 (by kernel_rfl) (by kernel_rfl) [a0] (by kernel_rfl) (of_eq_ (by kernel_rfl) h)

/-- slices.Contains[[]int,int] -/
def S54 (a0 a1 : Value) (R : Value → World → Prop) (w : World) : Prop :=
  CallP Try.prog 68 #[a0, a1] (fun v7 w =>
  LiftP Try.prog (binS Go.BinOp.geq 3 (Go.Operand.tmp 7) (Go.Operand.const (Go.Value.int Go.IntKind.i64 0)) v7 (Go.Value.int Go.IntKind.i64 0)) (fun v8 w =>
  R v8 w) w) w
theorem S54.calls (a0 a1 : Value) (R : Value → World → Prop) (w : World) (h : S54 a0 a1 R w) : Calls Try.prog 54 #[a0, a1] w fun e w' => ∃ v, e = .returned v ∧ R v w' :=
  calls_of_tr (n := 9) (c := bodyOf Try.f54) (.two .leaf (.two .leaf .leaf)) Try.func54 (by kernel_rfl) Try.ntmps54 (by kernel_rfl) (by kernel_rfl) [a0, a1] (by kernel_rfl) (of_eq_ (by kernel_rfl) h)

/-- slices.Index[[]int,int] -/
def S68 (a0 a1 : Value) (R : Value → World → Prop) (w : World) : Prop :=
  NextP Try.prog (builtin Go.Builtin.len #[23] 3 #[false] #[a0]) (fun v7 w =>
  LoopP (fun J vs w =>   -- [8]
    LiftP Try.prog (binS Go.BinOp.lss 3 (Go.Operand.tmp 8) (Go.Operand.tmp 7) (vs.headD undef) v7) (fun v9 w =>
    CondP v9 (fun w =>
      LiftP Try.prog (Instr.indexAt 23 a0 (vs.headD undef)) (fun v14 w =>
    LiftP Try.prog (Instr.loadAt 3 v14) (fun v15 w =>
    LiftP Try.prog (binS Go.BinOp.eql 3 (Go.Operand.tmp 11) (Go.Operand.tmp 15) a1 v15) (fun v16 w =>
    CondP v16 (fun w =>
      R (vs.headD undef) w) (fun w =>
      LiftP Try.prog (binS Go.BinOp.add 3 (Go.Operand.tmp 8) (Go.Operand.const (Go.Value.int Go.IntKind.i64 1)) (vs.headD undef) (Go.Value.int Go.IntKind.i64 1)) (fun v18 w =>
    J [v18] w) w) w) w) w) w) (fun w =>
      R (Go.Value.int Go.IntKind.i64 (-1)) w) w) w) [(Go.Value.int Go.IntKind.i64 0)] w) w
theorem S68.calls (a0 a1 : Value) (R : Value → World → Prop) (w : World) (h : S68 a0 a1 R w) : Calls Try.prog 68 #[a0, a1] w fun e w' => ∃ v, e = .returned v ∧ R v w' :=
  calls_of_tr (n := 19) (c := bodyOf Try.f68) (.two .leaf (.two (.two .leaf (.one (.loop [8] (.two .leaf (.two (.two .leaf .leaf) (.two (.one (.two .leaf (.two .leaf (.two (.two .leaf .leaf) .leaf)))) .leaf)))))) (.two .leaf .leaf))) Try.func68 (by kernel_rfl) Try.ntmps68 (by kernel_rfl) (by kernel_rfl) [a0, a1] (by kernel_rfl) (of_eq_ (by kernel_rfl) h)

end Go.Proofs.Ytcfncjejpjjhdaa.E
