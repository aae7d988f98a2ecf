import Derived.Test.YthicbfopjakiiaaE4
import Derived.Test.YthicbfopjakiiaaProg
import Derived.KernelRfl
namespace Go.Proofs.Ythicbfopjakiiaa.E
open Go
set_option maxRecDepth 100000

/-- (*shelfmark/net.Net).Under -/
def S43 (a0 : Value) (R : Value → World → Prop) (w : World) : Prop :=
  NextP Try.prog (nilChk a0) (fun v4 w =>
  LiftP Try.prog (Instr.fieldAt 118 v4 0) (fun v5 w =>
  LiftP Try.prog (Instr.loadAt 116 v5) (fun v6 w =>
  CallP Try.prog 67 #[v6] (fun v7 w =>
  CallP Try.prog 66 #[v7] (fun v8 w =>
  R v8 w) w) w) w) w) w
theorem S43.calls (a0 : Value) (R : Value → World → Prop) (w : World) (h : S43 a0 R w) : Calls Try.prog 43 #[a0] w fun e w' => ∃ v, e = .returned v ∧ R v w' :=
  calls_of_tr (n := 9) (c := bodyOf Try.f43) (.two .leaf (.two .leaf .leaf)) Try.func43 (by kernel_rfl) Try.ntmps43 (by kernel_rfl) (by kernel_rfl) [a0] (by kernel_rfl) (of_eq_ (by kernel_rfl) h)

/-- shelfmark/shelfmarklaw14.NetCounts -/
def S9 (a0 : Value) (R : Value → World → Prop) (w : World) : Prop :=
  CallP Try.prog 28 #[] (fun v21 w =>
  LiftP Try.prog (Op.unary Go.UnOp.not v21) (fun v22 w =>
  CondP v22 (fun w =>
    R (Go.Value.bool false) w) (fun w =>
    NextP Try.prog (builtin Go.Builtin.len #[70] 3 #[false] #[a0]) (fun v24 w =>
  LiftP Try.prog (binS Go.BinOp.gtr 3 (Go.Operand.tmp 24) (Go.Operand.const (Go.Value.int Go.IntKind.i64 100)) v24 (Go.Value.int Go.IntKind.i64 100)) (fun v25 w =>
  CondP v25 (fun w =>
    R (Go.Value.bool true) w) (fun w =>
    CallP Try.prog 29 #[] (fun v26 w =>
  LiftP Try.prog (Instr.alloc 84 true (.tuple #[])) (fun v4 w =>
  LoopP (fun J vs w =>   -- [5, 6]
    NextP Try.prog (builtin Go.Builtin.len #[70] 3 #[false] #[a0]) (fun v29 w =>
    LiftP Try.prog (binS Go.BinOp.lss 3 (Go.Operand.tmp 27) (Go.Operand.tmp 29) (vs.tail.headD undef) v29) (fun v30 w =>
    CondP v30 (fun w =>
      JoinP (fun J_1 w =>
      LiftP Try.prog (Instr.indexAt 70 a0 (vs.tail.headD undef)) (fun v37 w =>
      LiftP Try.prog (Instr.fieldAt 76 v37 2) (fun v38 w =>
      LiftP Try.prog (Instr.loadAt 3 v38) (fun v39 w =>
      CallP Try.prog 35 #[v26, v39] (fun v40 w =>
      LiftP Try.prog (Instr.extract v40 0) (fun v41 w =>
      LiftP Try.prog (Instr.extract v40 1) (fun v42 w =>
      LiftP Try.prog (Instr.alloc 58 true (.tuple #[])) (fun v7 w =>
      LiftU Try.prog (Instr.storeAt 58 v7 v41) (fun v_ w =>
      JoinP (fun J_2 w =>
        CondP v42 (fun w =>
          LiftP Try.prog (Instr.fieldAt 58 v7 3) (fun v44 w =>
          LiftP Try.prog (Instr.loadAt 3 v44) (fun v45 w =>
          J_2 [v45] w) w) w) (fun w =>
          J_2 [(Go.Value.int Go.IntKind.i64 0)] w) w) (fun vs_2 w =>   -- [9]
      LiftP Try.prog (binS Go.BinOp.lss 3 (Go.Operand.tmp 46) (Go.Operand.const (Go.Value.int Go.IntKind.i64 0)) (vs_2.headD undef) (Go.Value.int Go.IntKind.i64 0)) (fun v47 w =>
      GuardP v47 false (fun K w => K (vs_2.headD undef) w) (fun v49 w =>
      GuardP v47 false (fun K w => K (vs.headD undef) w) (fun v50 w =>
      GuardP v47 false (fun K w => LiftP Try.prog (binS Go.BinOp.gtr 3 (Go.Operand.tmp 49) (Go.Operand.tmp 50) v49 v50) K w) (fun v51 w =>
      PickP v47 (Go.Value.bool true) v51 (fun v52 w =>
      CondP v52 (fun w =>
        R (Go.Value.bool false) w) (fun w =>
        LiftP Try.prog (Instr.indexAt 70 a0 (vs.tail.headD undef)) (fun v55 w =>
      LiftP Try.prog (Instr.fieldAt 76 v55 0) (fun v56 w =>
      LiftP Try.prog (Instr.loadAt 3 v56) (fun v57 w =>
      LiftP Try.prog (binS Go.BinOp.eql 3 (Go.Operand.tmp 57) (Go.Operand.const (Go.Value.int Go.IntKind.i64 1)) v57 (Go.Value.int Go.IntKind.i64 1)) (fun v59 w =>
      CondP v59 (fun w =>
        LiftP Try.prog (binS Go.BinOp.add 3 (Go.Operand.tmp 60) (Go.Operand.const (Go.Value.int Go.IntKind.i64 1)) (vs.headD undef) (Go.Value.int Go.IntKind.i64 1)) (fun v61 w =>
        LiftP Try.prog (Instr.build 58 #[(3, v61)]) (fun v65 w =>
        CallP Try.prog 30 #[v26, v65] (fun v66 w =>
        LiftP Try.prog (Instr.extract v66 0) (fun v67 w =>
        LiftP Try.prog (Instr.extract v66 1) (fun v68 w =>
        LiftP Try.prog (binS Go.BinOp.neq 25 (Go.Operand.tmp 69) (Go.Operand.const (Go.Value.int Go.IntKind.i64 0)) v68 (Go.Value.int Go.IntKind.i64 0)) (fun v70 w =>
        CondP v70 (fun w =>
          R (Go.Value.bool false) w) (fun w =>
          LiftP Try.prog (Instr.indexAt 84 v4 v61) (fun v72 w =>
        LiftP Try.prog (Instr.loadAt 3 v72) (fun v73 w =>
        LiftP Try.prog (binS Go.BinOp.add 3 (Go.Operand.tmp 73) (Go.Operand.const (Go.Value.int Go.IntKind.i64 1)) v73 (Go.Value.int Go.IntKind.i64 1)) (fun v74 w =>
        LiftP Try.prog (Instr.indexAt 84 v4 v61) (fun v75 w =>
        LiftU Try.prog (Instr.storeAt 3 v75 v74) (fun v__1 w =>
        J_1 [v61] w) w) w) w) w) w) w) w) w) w) w) w) w) (fun w =>
        LiftP Try.prog (binS Go.BinOp.eql 3 (Go.Operand.tmp 57) (Go.Operand.const (Go.Value.int Go.IntKind.i64 2)) v57 (Go.Value.int Go.IntKind.i64 2)) (fun v77 w =>
        CondP v77 (fun w =>
          LiftP Try.prog (Instr.indexAt 70 a0 (vs.tail.headD undef)) (fun v82 w =>
          LiftP Try.prog (Instr.fieldAt 76 v82 2) (fun v83 w =>
          LiftP Try.prog (Instr.loadAt 3 v83) (fun v84 w =>
          CallP Try.prog 33 #[v26, v84] (fun v85 w =>
          LiftP Try.prog (Instr.extract v85 0) (fun v86 w =>
          LiftP Try.prog (Instr.extract v85 1) (fun v87 w =>
          LiftP Try.prog (Instr.alloc 58 true (.tuple #[])) (fun v12 w =>
          LiftU Try.prog (Instr.storeAt 58 v12 v86) (fun v__2 w =>
          LiftP Try.prog (binS Go.BinOp.eql 25 (Go.Operand.tmp 88) (Go.Operand.const (Go.Value.int Go.IntKind.i64 0)) v87 (Go.Value.int Go.IntKind.i64 0)) (fun v89 w =>
          LiftP Try.prog (binS Go.BinOp.neq 4 (Go.Operand.tmp 89) (Go.Operand.tmp 90) v89 v42) (fun v91 w =>
          GuardP v91 false (fun K w => K v42 w) (fun v93 w =>
          GuardP v91 false (fun K w => K v93 w) (fun v94 w =>
          GuardP v94 true (fun K w => LiftP Try.prog (Instr.fieldAt 58 v12 3) K w) (fun v95 w =>
          GuardP v94 true (fun K w => LiftP Try.prog (Instr.loadAt 3 v95) K w) (fun v96 w =>
          GuardP v94 true (fun K w => K (vs_2.headD undef) w) (fun v97 w =>
          GuardP v94 true (fun K w => LiftP Try.prog (binS Go.BinOp.neq 3 (Go.Operand.tmp 96) (Go.Operand.tmp 97) v96 v97) K w) (fun v98 w =>
          GuardP v91 false (fun K w => PickP v94 v98 (Go.Value.bool false) K w) (fun v99 w =>
          PickP v91 (Go.Value.bool true) v99 (fun v100 w =>
          CondP v100 (fun w =>
            R (Go.Value.bool false) w) (fun w =>
            CondP v42 (fun w =>
            LiftP Try.prog (Instr.indexAt 84 v4 (vs_2.headD undef)) (fun v103 w =>
            LiftP Try.prog (Instr.loadAt 3 v103) (fun v104 w =>
            LiftP Try.prog (binS Go.BinOp.sub 3 (Go.Operand.tmp 104) (Go.Operand.const (Go.Value.int Go.IntKind.i64 1)) v104 (Go.Value.int Go.IntKind.i64 1)) (fun v105 w =>
            LiftP Try.prog (Instr.indexAt 84 v4 (vs_2.headD undef)) (fun v106 w =>
            LiftU Try.prog (Instr.storeAt 3 v106 v105) (fun v__3 w =>
            J_1 [(vs.headD undef)] w) w) w) w) w) w) (fun w =>
            J_1 [(vs.headD undef)] w) w) w) w) w) w) w) w) w) w) w) w) w) w) w) w) w) w) w) w) w) (fun w =>
          LiftP Try.prog (binS Go.BinOp.eql 3 (Go.Operand.tmp 57) (Go.Operand.const (Go.Value.int Go.IntKind.i64 3)) v57 (Go.Value.int Go.IntKind.i64 3)) (fun v108 w =>
          CondP v108 (fun w =>
            LiftP Try.prog (Instr.indexAt 70 a0 (vs.tail.headD undef)) (fun v112 w =>
            LiftP Try.prog (Instr.fieldAt 76 v112 2) (fun v113 w =>
            LiftP Try.prog (Instr.loadAt 3 v113) (fun v114 w =>
            CallP Try.prog 39 #[v26, v114] (fun v115 w =>
            LiftP Try.prog (binS Go.BinOp.eql 25 (Go.Operand.tmp 115) (Go.Operand.const (Go.Value.int Go.IntKind.i64 0)) v115 (Go.Value.int Go.IntKind.i64 0)) (fun v116 w =>
            CondP v116 (fun w =>
              LiftP Try.prog (Instr.indexAt 84 v4 (vs_2.headD undef)) (fun v118 w =>
              LiftP Try.prog (Instr.loadAt 3 v118) (fun v119 w =>
              LiftP Try.prog (binS Go.BinOp.sub 3 (Go.Operand.tmp 119) (Go.Operand.const (Go.Value.int Go.IntKind.i64 1)) v119 (Go.Value.int Go.IntKind.i64 1)) (fun v120 w =>
              LiftP Try.prog (Instr.indexAt 84 v4 (vs_2.headD undef)) (fun v121 w =>
              LiftU Try.prog (Instr.storeAt 3 v121 v120) (fun v__4 w =>
              J_1 [(vs.headD undef)] w) w) w) w) w) w) (fun w =>
              J_1 [(vs.headD undef)] w) w) w) w) w) w) w) (fun w =>
            LiftP Try.prog (binS Go.BinOp.eql 3 (Go.Operand.tmp 57) (Go.Operand.const (Go.Value.int Go.IntKind.i64 4)) v57 (Go.Value.int Go.IntKind.i64 4)) (fun v123 w =>
            CondP v123 (fun w =>
              LiftP Try.prog (Instr.indexAt 70 a0 (vs.tail.headD undef)) (fun v128 w =>
              LiftP Try.prog (Instr.fieldAt 76 v128 2) (fun v129 w =>
              LiftP Try.prog (Instr.loadAt 3 v129) (fun v130 w =>
              CallP Try.prog 31 #[v26, v130] (fun v131 w =>
              LiftP Try.prog (Instr.extract v131 0) (fun v132 w =>
              LiftP Try.prog (Instr.extract v131 1) (fun v133 w =>
              LiftP Try.prog (binS Go.BinOp.eql 25 (Go.Operand.tmp 134) (Go.Operand.const (Go.Value.int Go.IntKind.i64 0)) v133 (Go.Value.int Go.IntKind.i64 0)) (fun v135 w =>
              CondP v135 (fun w =>
                LiftP Try.prog (Instr.indexAt 84 v4 (vs_2.headD undef)) (fun v137 w =>
                LiftP Try.prog (Instr.loadAt 3 v137) (fun v138 w =>
                LiftP Try.prog (binS Go.BinOp.add 3 (Go.Operand.tmp 138) (Go.Operand.const (Go.Value.int Go.IntKind.i64 1)) v138 (Go.Value.int Go.IntKind.i64 1)) (fun v139 w =>
                LiftP Try.prog (Instr.indexAt 84 v4 (vs_2.headD undef)) (fun v140 w =>
                LiftU Try.prog (Instr.storeAt 3 v140 v139) (fun v__5 w =>
                J_1 [(vs.headD undef)] w) w) w) w) w) w) (fun w =>
                J_1 [(vs.headD undef)] w) w) w) w) w) w) w) w) w) (fun w =>
              J_1 [(vs.headD undef)] w) w) w) w) w) w) w) w) w) w) w) w) w) w) w) w) w) w) w) w) w) w) w) w) w) w) w) (fun vs_1 w =>   -- [5]
    LiftP Try.prog (binS Go.BinOp.add 3 (Go.Operand.tmp 31) (Go.Operand.const (Go.Value.int Go.IntKind.i64 1)) (vs.tail.headD undef) (Go.Value.int Go.IntKind.i64 1)) (fun v32 w =>
    J [(vs_1.headD undef), v32] w) w) w) (fun w =>
      CallP Try.prog 43 #[v26] (fun v142 w =>
  LoopP (fun J_3 vs_3 w =>   -- [17]
    NextP Try.prog (builtin Go.Builtin.len #[81] 3 #[false] #[v142]) (fun v145 w =>
    LiftP Try.prog (binS Go.BinOp.lss 3 (Go.Operand.tmp 143) (Go.Operand.tmp 145) (vs_3.headD undef) v145) (fun v146 w =>
    CondP v146 (fun w =>
      LiftP Try.prog (Instr.indexAt 81 v142 (vs_3.headD undef)) (fun v153 w =>
    LiftP Try.prog (Instr.loadAt 3 v153) (fun v154 w =>
    CallP Try.prog 33 #[v26, v154] (fun v155 w =>
    LiftP Try.prog (Instr.extract v155 0) (fun v156 w =>
    LiftP Try.prog (Instr.extract v155 1) (fun v157 w =>
    LiftP Try.prog (Instr.alloc 58 true (.tuple #[])) (fun v18 w =>
    LiftU Try.prog (Instr.storeAt 58 v18 v156) (fun v__6 w =>
    LiftP Try.prog (binS Go.BinOp.neq 25 (Go.Operand.tmp 158) (Go.Operand.const (Go.Value.int Go.IntKind.i64 0)) v157 (Go.Value.int Go.IntKind.i64 0)) (fun v159 w =>
    GuardP v159 false (fun K w => LiftP Try.prog (Instr.fieldAt 58 v18 3) K w) (fun v161 w =>
    GuardP v159 false (fun K w => LiftP Try.prog (Instr.loadAt 3 v161) K w) (fun v162 w =>
    GuardP v159 false (fun K w => LiftP Try.prog (binS Go.BinOp.lss 3 (Go.Operand.tmp 162) (Go.Operand.const (Go.Value.int Go.IntKind.i64 1)) v162 (Go.Value.int Go.IntKind.i64 1)) K w) (fun v163 w =>
    PickP v159 (Go.Value.bool true) v163 (fun v164 w =>
    GuardP v164 false (fun K w => LiftP Try.prog (Instr.fieldAt 58 v18 3) K w) (fun v166 w =>
    GuardP v164 false (fun K w => LiftP Try.prog (Instr.loadAt 3 v166) K w) (fun v167 w =>
    GuardP v164 false (fun K w => K (vs.headD undef) w) (fun v168 w =>
    GuardP v164 false (fun K w => LiftP Try.prog (binS Go.BinOp.gtr 3 (Go.Operand.tmp 167) (Go.Operand.tmp 168) v167 v168) K w) (fun v169 w =>
    PickP v164 (Go.Value.bool true) v169 (fun v170 w =>
    CondP v170 (fun w =>
      R (Go.Value.bool false) w) (fun w =>
      LiftP Try.prog (Instr.fieldAt 58 v18 3) (fun v171 w =>
    LiftP Try.prog (Instr.loadAt 3 v171) (fun v172 w =>
    LiftP Try.prog (Instr.indexAt 84 v4 v172) (fun v173 w =>
    LiftP Try.prog (Instr.loadAt 3 v173) (fun v174 w =>
    LiftP Try.prog (binS Go.BinOp.sub 3 (Go.Operand.tmp 174) (Go.Operand.const (Go.Value.int Go.IntKind.i64 1)) v174 (Go.Value.int Go.IntKind.i64 1)) (fun v175 w =>
    LiftP Try.prog (Instr.indexAt 84 v4 v172) (fun v176 w =>
    LiftU Try.prog (Instr.storeAt 3 v176 v175) (fun v__7 w =>
    LiftP Try.prog (binS Go.BinOp.add 3 (Go.Operand.tmp 147) (Go.Operand.const (Go.Value.int Go.IntKind.i64 1)) (vs_3.headD undef) (Go.Value.int Go.IntKind.i64 1)) (fun v148 w =>
    J_3 [v148] w) w) w) w) w) w) w) w) w) w) w) w) w) w) w) w) w) w) w) w) w) w) w) w) w) w) w) (fun w =>
      LoopP (fun J_4 vs_4 w =>   -- [20]
    LiftP Try.prog (binS Go.BinOp.lss 3 (Go.Operand.tmp 177) (Go.Operand.const (Go.Value.int Go.IntKind.i64 101)) (vs_4.headD undef) (Go.Value.int Go.IntKind.i64 101)) (fun v178 w =>
    CondP v178 (fun w =>
      LiftP Try.prog (Instr.indexAt 84 v4 (vs_4.headD undef)) (fun v182 w =>
    LiftP Try.prog (Instr.loadAt 3 v182) (fun v183 w =>
    LiftP Try.prog (binS Go.BinOp.neq 3 (Go.Operand.tmp 183) (Go.Operand.const (Go.Value.int Go.IntKind.i64 0)) v183 (Go.Value.int Go.IntKind.i64 0)) (fun v184 w =>
    CondP v184 (fun w =>
      R (Go.Value.bool false) w) (fun w =>
      LiftP Try.prog (binS Go.BinOp.add 3 (Go.Operand.tmp 179) (Go.Operand.const (Go.Value.int Go.IntKind.i64 1)) (vs_4.headD undef) (Go.Value.int Go.IntKind.i64 1)) (fun v180 w =>
    J_4 [v180] w) w) w) w) w) w) (fun w =>
      CallP Try.prog 32 #[v26] (fun v186 w =>
  LiftP Try.prog (binS Go.BinOp.eql 3 (Go.Operand.tmp 186) (Go.Operand.const (Go.Value.int Go.IntKind.i64 0)) v186 (Go.Value.int Go.IntKind.i64 0)) (fun v187 w =>
  R v187 w) w) w) w) w) [(Go.Value.int Go.IntKind.i64 0)] w) w) w) w) [(Go.Value.int Go.IntKind.i64 0)] w) w) w) w) w) [(Go.Value.int Go.IntKind.i64 0), (Go.Value.int Go.IntKind.i64 0)] w) w) w) w) w) w) w) w) w
theorem S9.calls (a0 : Value) (R : Value → World → Prop) (w : World) (h : S9 a0 R w) : Calls Try.prog 9 #[a0] w fun e w' => ∃ v, e = .returned v ∧ R v w' :=
  calls_of_tr (n := 188) (c := bodyOf Try.f9) (.two .leaf (.two (.two .leaf (.two (.two .leaf .leaf) .leaf)) (.two (.two .leaf (.two (.two .leaf .leaf) .leaf)) (.two .leaf (.two .leaf (.two .leaf (.two (.two .leaf (.one (.loop [5, 6] (.two (.two .leaf (.two .leaf .leaf)) (.join [5] (.one (.two .leaf (.two .leaf (.join [9] (.two .leaf (.two .leaf .leaf)) (.two (.two .leaf (.two (.two .leaf .leaf) .leaf)) (.two .leaf (.one (.two .leaf (.two (.two .leaf (.two (.two .leaf (.two .leaf (.two (.two .leaf .leaf) .leaf))) .leaf)) (.two .leaf (.two (.two .leaf (.two (.two .leaf (.two (.two .leaf .leaf) .leaf)) (.two .leaf (.two .leaf .leaf)))) (.two .leaf (.two (.two .leaf (.two .leaf .leaf)) (.two .leaf (.two (.two .leaf (.two .leaf (.two .leaf .leaf))) .leaf))))))))))))))) .leaf))))) (.two .leaf (.two (.two .leaf (.one (.loop [17] (.two (.two .leaf (.two .leaf .leaf)) (.two (.one (.two .leaf (.two (.two .leaf (.two (.two .leaf .leaf) .leaf)) .leaf))) .leaf))))) (.two (.two .leaf (.one (.loop [20] (.two (.two .leaf (.two .leaf .leaf)) (.two (.one (.two .leaf (.two (.two .leaf .leaf) .leaf))) .leaf))))) (.two .leaf .leaf))))))))))) Try.func9 (by kernel_rfl) Try.ntmps9 (by kernel_rfl) (by kernel_rfl) [a0] (by kernel_rfl) (of_eq_ (by kernel_rfl) h)

end Go.Proofs.Ythicbfopjakiiaa.E
