import Derived.Test.YthicbfopjakiiaaM1
import Derived.Test.YthicbfopjakiiaaProg
import Derived.KernelRfl
namespace Go.Proofs.Ythicbfopjakiiaa.E
open Go
set_option maxRecDepth 100000

/-- shelfmark/shelfmarklaw15.SessionRoads -/
def S10 (a0 : Value) (R : Value → World → Prop) (w : World) : Prop :=
  CallP Try.prog 11 #[] (fun v20 w =>
  LiftP Try.prog (Op.unary Go.UnOp.not v20) (fun v21 w =>
  CondP v21 (fun w =>
    R (Go.Value.bool false) w) (fun w =>
    NextP Try.prog (builtin Go.Builtin.len #[85] 3 #[false] #[a0]) (fun v23 w =>
  LiftP Try.prog (binS Go.BinOp.gtr 3 (Go.Operand.tmp 23) (Go.Operand.const (Go.Value.int Go.IntKind.i64 200)) v23 (Go.Value.int Go.IntKind.i64 200)) (fun v24 w =>
  CondP v24 (fun w =>
    R (Go.Value.bool true) w) (fun w =>
    CallP Try.prog 12 #[] (fun v25 w =>
  CallP Try.prog 12 #[] (fun v26 w =>
  LiftP Try.prog (Instr.build 87 #[(0, v25), (1, v26)]) (fun v27 w =>
  CallP Try.prog 29 #[] (fun v28 w =>
  LiftP Try.prog (Instr.build 90 #[(0, v27), (3, v28)]) (fun v29 w =>
  LiftP Try.prog (Instr.box 90 v29) (fun v30 w =>
  LoopP (fun J vs w =>   -- [4]
    NextP Try.prog (builtin Go.Builtin.len #[85] 3 #[false] #[a0]) (fun v33 w =>
    LiftP Try.prog (binS Go.BinOp.lss 3 (Go.Operand.tmp 31) (Go.Operand.tmp 33) (vs.headD undef) v33) (fun v34 w =>
    CondP v34 (fun w =>
      LiftP Try.prog (Instr.indexAt 85 a0 (vs.headD undef)) (fun v39 w =>
    LiftP Try.prog (Instr.fieldAt 92 v39 1) (fun v40 w =>
    LiftP Try.prog (Instr.loadAt 3 v40) (fun v41 w =>
    LiftP Try.prog (binS Go.BinOp.and 3 (Go.Operand.tmp 41) (Go.Operand.const (Go.Value.int Go.IntKind.i64 1)) v41 (Go.Value.int Go.IntKind.i64 1)) (fun v42 w =>
    NextP Try.prog (nilChk v30) (fun v44 w =>
    LiftP Try.prog (Instr.fieldAt 90 v44 3) (fun v45 w =>
    LiftP Try.prog (Instr.loadAt 52 v45) (fun v46 w =>
    CallP Try.prog 43 #[v46] (fun v47 w =>
    JoinP (fun J_1 w =>
      NextP Try.prog (builtin Go.Builtin.len #[81] 3 #[false] #[v47]) (fun v49 w =>
      LiftP Try.prog (binS Go.BinOp.gtr 3 (Go.Operand.tmp 49) (Go.Operand.const (Go.Value.int Go.IntKind.i64 0)) v49 (Go.Value.int Go.IntKind.i64 0)) (fun v50 w =>
      CondP v50 (fun w =>
        LiftP Try.prog (Instr.indexAt 85 a0 (vs.headD undef)) (fun v54 w =>
        LiftP Try.prog (Instr.fieldAt 92 v54 2) (fun v55 w =>
        LiftP Try.prog (Instr.loadAt 3 v55) (fun v56 w =>
        LiftP Try.prog (convert 3 93 v56) (fun v57 w =>
        NextP Try.prog (builtin Go.Builtin.len #[81] 3 #[false] #[v47]) (fun v59 w =>
        LiftP Try.prog (convert 3 93 v59) (fun v60 w =>
        LiftP Try.prog (binS Go.BinOp.rem 93 (Go.Operand.tmp 57) (Go.Operand.tmp 60) v57 v60) (fun v61 w =>
        LiftP Try.prog (convert 93 3 v61) (fun v62 w =>
        LiftP Try.prog (Instr.indexAt 81 v47 v62) (fun v63 w =>
        LiftP Try.prog (Instr.loadAt 3 v63) (fun v64 w =>
        J_1 [v64] w) w) w) w) w) w) w) w) w) w) w) (fun w =>
        J_1 [(Go.Value.int Go.IntKind.i64 0)] w) w) w) w) (fun vs_1 w =>   -- [7]
    JoinP (fun J_2 w =>
      LiftP Try.prog (Instr.indexAt 85 a0 (vs.headD undef)) (fun v67 w =>
      LiftP Try.prog (Instr.fieldAt 92 v67 0) (fun v68 w =>
      LiftP Try.prog (Instr.loadAt 3 v68) (fun v69 w =>
      LiftP Try.prog (binS Go.BinOp.eql 3 (Go.Operand.tmp 69) (Go.Operand.const (Go.Value.int Go.IntKind.i64 1)) v69 (Go.Value.int Go.IntKind.i64 1)) (fun v71 w =>
      CondP v71 (fun w =>
        LiftP Try.prog (Instr.indexAt 85 a0 (vs.headD undef)) (fun v74 w =>
        LiftP Try.prog (Instr.fieldAt 92 v74 3) (fun v75 w =>
        LiftP Try.prog (Instr.loadAt 9 v75) (fun v76 w =>
        NextP Try.prog (builtin Go.Builtin.len #[9] 3 #[false] #[v76]) (fun v77 w =>
        LiftP Try.prog (binS Go.BinOp.gtr 3 (Go.Operand.tmp 77) (Go.Operand.const (Go.Value.int Go.IntKind.i64 100)) v77 (Go.Value.int Go.IntKind.i64 100)) (fun v78 w =>
        CondP v78 (fun w =>
          R (Go.Value.bool true) w) (fun w =>
          DrawP (fun S w =>
        YieldN Try.prog S (nilChk v30) (fun v82 w =>
        YieldP Try.prog S (Instr.fieldAt 90 v82 0) (fun v83 w =>
        YieldP Try.prog S (Instr.indexAt 87 v83 v42) (fun v84 w =>
        YieldP Try.prog S (Instr.loadAt 23 v84) (fun v85 w =>
        YieldP Try.prog S (Instr.indexAt 85 a0 (vs.headD undef)) (fun v88 w =>
        YieldP Try.prog S (Instr.fieldAt 92 v88 3) (fun v89 w =>
        YieldP Try.prog S (Instr.loadAt 9 v89) (fun v90 w =>
        ActP S (fun K w => CallP Try.prog 13 #[v85, v90] K w) (fun S v91 w =>
        YieldP Try.prog S (Instr.extract v91 0) (fun v92 w =>
        YieldP Try.prog S (Instr.extract v91 1) (fun v93 w =>
        LiftP Try.prog (binS Go.BinOp.eql 25 (Go.Operand.tmp 94) (Go.Operand.const (Go.Value.int Go.IntKind.i64 0)) v93 (Go.Value.int Go.IntKind.i64 0)) (fun v95 w =>
        CondP v95 (fun w =>
          DrawP (fun S w =>
          YieldN Try.prog S (nilChk v30) (fun v100 w =>
          YieldP Try.prog S (Instr.fieldAt 90 v100 1) (fun v101 w =>
          YieldP Try.prog S (Instr.indexAt 88 v101 v42) (fun v102 w =>
          YieldP Try.prog S (Instr.loadAt 37 v102) (fun v103 w =>
          YieldP Try.prog S (Instr.indexAt 85 a0 (vs.headD undef)) (fun v106 w =>
          YieldP Try.prog S (Instr.fieldAt 92 v106 3) (fun v107 w =>
          YieldP Try.prog S (Instr.loadAt 9 v107) (fun v108 w =>
          YieldN Try.prog S (nilChk v30) (fun v111 w =>
          YieldP Try.prog S (Instr.fieldAt 90 v111 1) (fun v112 w =>
          ActP S (fun K w => LiftP Try.prog (Instr.buildSlice 37 1 #[(0, v108)]) K w) (fun S v109 w =>
          ActP S (fun K w => NextP Try.prog (builtin Go.Builtin.append #[37, 37] 37 #[false, false] #[v103, v109]) K w) (fun S v110 w =>
          YieldP Try.prog S (Instr.indexAt 88 v112 v42) (fun v113 w =>
          LiftU Try.prog (Instr.storeAt 37 v113 v110) (fun v_ w =>
          J_2 [] w) w) w) w) w) w) w) w) w) w) w) w) w) w) w) (fun w =>
          J_2 [] w) w) w) w) w) w) w) w) w) w) w) w) w) w) w) w) w) w) w) w) (fun w =>
        LiftP Try.prog (binS Go.BinOp.eql 3 (Go.Operand.tmp 69) (Go.Operand.const (Go.Value.int Go.IntKind.i64 2)) v69 (Go.Value.int Go.IntKind.i64 2)) (fun v115 w =>
        CondP v115 (fun w =>
          LiftP Try.prog (Instr.indexAt 85 a0 (vs.headD undef)) (fun v120 w =>
          LiftP Try.prog (Instr.fieldAt 92 v120 2) (fun v121 w =>
          LiftP Try.prog (Instr.loadAt 3 v121) (fun v122 w =>
          NextP Try.prog (builtin Go.Builtin.min #[3, 3] 3 #[false, true] #[v122, (Go.Value.int Go.IntKind.i64 20)]) (fun v123 w =>
          CallP Try.prog 45 #[v30, v42, v123] (fun v124 w =>
          J_2 [] w) w) w) w) w) w) (fun w =>
          LiftP Try.prog (binS Go.BinOp.eql 3 (Go.Operand.tmp 69) (Go.Operand.const (Go.Value.int Go.IntKind.i64 3)) v69 (Go.Value.int Go.IntKind.i64 3)) (fun v126 w =>
          CondP v126 (fun w =>
            CallP Try.prog 46 #[v30, v42] (fun v129 w =>
            J_2 [] w) w) (fun w =>
            LiftP Try.prog (binS Go.BinOp.eql 3 (Go.Operand.tmp 69) (Go.Operand.const (Go.Value.int Go.IntKind.i64 4)) v69 (Go.Value.int Go.IntKind.i64 4)) (fun v131 w =>
            CondP v131 (fun w =>
              NextP Try.prog (nilChk v30) (fun v134 w =>
              LiftP Try.prog (Instr.fieldAt 90 v134 3) (fun v135 w =>
              LiftP Try.prog (Instr.loadAt 52 v135) (fun v136 w =>
              CallP Try.prog 33 #[v136, (vs_1.headD undef)] (fun v138 w =>
              LiftP Try.prog (Instr.extract v138 0) (fun v139 w =>
              LiftP Try.prog (Instr.extract v138 1) (fun v140 w =>
              LiftP Try.prog (Instr.alloc 58 true (.tuple #[])) (fun v10 w =>
              LiftU Try.prog (Instr.storeAt 58 v10 v139) (fun v__1 w =>
              LiftP Try.prog (binS Go.BinOp.eql 25 (Go.Operand.tmp 141) (Go.Operand.const (Go.Value.int Go.IntKind.i64 0)) v140 (Go.Value.int Go.IntKind.i64 0)) (fun v142 w =>
              CondP v142 (fun w =>
                LiftP Try.prog (Instr.loadAt 58 v10) (fun v144 w =>
                CallP Try.prog 47 #[v30, v144] (fun v145 w =>
                J_2 [] w) w) w) (fun w =>
                J_2 [] w) w) w) w) w) w) w) w) w) w) w) (fun w =>
              LiftP Try.prog (binS Go.BinOp.eql 3 (Go.Operand.tmp 69) (Go.Operand.const (Go.Value.int Go.IntKind.i64 5)) v69 (Go.Value.int Go.IntKind.i64 5)) (fun v147 w =>
              CondP v147 (fun w =>
                NextP Try.prog (nilChk v30) (fun v149 w =>
                LiftP Try.prog (Instr.fieldAt 90 v149 3) (fun v150 w =>
                LiftP Try.prog (Instr.loadAt 52 v150) (fun v151 w =>
                CallP Try.prog 39 #[v151, (vs_1.headD undef)] (fun v153 w =>
                J_2 [] w) w) w) w) w) (fun w =>
                LiftP Try.prog (binS Go.BinOp.eql 3 (Go.Operand.tmp 69) (Go.Operand.const (Go.Value.int Go.IntKind.i64 6)) v69 (Go.Value.int Go.IntKind.i64 6)) (fun v155 w =>
                CondP v155 (fun w =>
                  NextP Try.prog (nilChk v30) (fun v157 w =>
                  LiftP Try.prog (Instr.fieldAt 90 v157 3) (fun v158 w =>
                  LiftP Try.prog (Instr.loadAt 52 v158) (fun v159 w =>
                  CallP Try.prog 32 #[v159] (fun v160 w =>
                  LiftP Try.prog (binS Go.BinOp.lss 3 (Go.Operand.tmp 160) (Go.Operand.const (Go.Value.int Go.IntKind.i64 1000)) v160 (Go.Value.int Go.IntKind.i64 1000)) (fun v161 w =>
                  CondP v161 (fun w =>
                    NextP Try.prog (nilChk v30) (fun v163 w =>
                    LiftP Try.prog (Instr.fieldAt 90 v163 3) (fun v164 w =>
                    LiftP Try.prog (Instr.loadAt 52 v164) (fun v165 w =>
                    CallP Try.prog 31 #[v165, (vs_1.headD undef)] (fun v167 w =>
                    J_2 [] w) w) w) w) w) (fun w =>
                    J_2 [] w) w) w) w) w) w) w) (fun w =>
                  LiftP Try.prog (binS Go.BinOp.eql 3 (Go.Operand.tmp 69) (Go.Operand.const (Go.Value.int Go.IntKind.i64 7)) v69 (Go.Value.int Go.IntKind.i64 7)) (fun v169 w =>
                  CondP v169 (fun w =>
                    NextP Try.prog (nilChk v30) (fun v173 w =>
                    LiftP Try.prog (Instr.fieldAt 90 v173 0) (fun v174 w =>
                    LiftP Try.prog (Instr.indexAt 87 v174 v42) (fun v175 w =>
                    LiftP Try.prog (Instr.loadAt 23 v175) (fun v176 w =>
                    CallP Try.prog 19 #[v176] (fun v177 w =>
                    CallP Try.prog 16 #[v177] (fun v178 w =>
                    LiftP Try.prog (Instr.extract v178 0) (fun v179 w =>
                    LiftP Try.prog (Instr.extract v178 1) (fun v180 w =>
                    LiftP Try.prog (binS Go.BinOp.eql 23 (Go.Operand.tmp 181) (Go.Operand.const (Go.Value.pointer none)) v179 (Go.Value.pointer none)) (fun v182 w =>
                    GuardP v182 false (fun K w => K v180 w) (fun v184 w =>
                    GuardP v182 false (fun K w => LiftP Try.prog (binS Go.BinOp.neq 25 (Go.Operand.tmp 184) (Go.Operand.const (Go.Value.int Go.IntKind.i64 0)) v184 (Go.Value.int Go.IntKind.i64 0)) K w) (fun v185 w =>
                    PickP v182 (Go.Value.bool true) v185 (fun v186 w =>
                    CondP v186 (fun w =>
                      R (Go.Value.bool false) w) (fun w =>
                      NextP Try.prog (nilChk v30) (fun v190 w =>
                    LiftP Try.prog (Instr.fieldAt 90 v190 0) (fun v191 w =>
                    LiftP Try.prog (Instr.indexAt 87 v191 v42) (fun v192 w =>
                    LiftU Try.prog (Instr.storeAt 23 v192 v179) (fun v__2 w =>
                    J_2 [] w) w) w) w) w) w) w) w) w) w) w) w) w) w) w) w) w) w) (fun w =>
                    J_2 [] w) w) w) w) w) w) w) w) w) w) w) w) w) w) w) w) w) w) (fun vs_2 w =>   -- []
    CallP Try.prog 48 #[v30] (fun v194 w =>
    LiftP Try.prog (Op.unary Go.UnOp.not v194) (fun v195 w =>
    CondP v195 (fun w =>
      R (Go.Value.bool false) w) (fun w =>
      LiftP Try.prog (binS Go.BinOp.add 3 (Go.Operand.tmp 35) (Go.Operand.const (Go.Value.int Go.IntKind.i64 1)) (vs.headD undef) (Go.Value.int Go.IntKind.i64 1)) (fun v36 w =>
    J [v36] w) w) w) w) w) w) w) w) w) w) w) w) w) w) w) (fun w =>
      LoopP (fun J_3 vs_3 w =>   -- [14]
    LiftP Try.prog (binS Go.BinOp.lss 3 (Go.Operand.tmp 196) (Go.Operand.const (Go.Value.int Go.IntKind.i64 3)) (vs_3.headD undef) (Go.Value.int Go.IntKind.i64 3)) (fun v197 w =>
    CondP v197 (fun w =>
      LoopP (fun J_4 vs_4 w =>   -- [15]
      LiftP Try.prog (binS Go.BinOp.lss 3 (Go.Operand.tmp 200) (Go.Operand.const (Go.Value.int Go.IntKind.i64 2)) (vs_4.headD undef) (Go.Value.int Go.IntKind.i64 2)) (fun v201 w =>
      CondP v201 (fun w =>
        CallP Try.prog 45 #[v30, (vs_4.headD undef), (Go.Value.int Go.IntKind.i64 300)] (fun v206 w =>
      CallP Try.prog 46 #[v30, (vs_4.headD undef)] (fun v209 w =>
      LiftP Try.prog (binS Go.BinOp.add 3 (Go.Operand.tmp 202) (Go.Operand.const (Go.Value.int Go.IntKind.i64 1)) (vs_4.headD undef) (Go.Value.int Go.IntKind.i64 1)) (fun v203 w =>
      J_4 [v203] w) w) w) w) (fun w =>
        NextP Try.prog (nilChk v30) (fun v211 w =>
    LiftP Try.prog (Instr.fieldAt 90 v211 3) (fun v212 w =>
    LiftP Try.prog (Instr.loadAt 52 v212) (fun v213 w =>
    CallP Try.prog 43 #[v213] (fun v214 w =>
    LoopP (fun J_5 vs_5 w =>   -- [17]
      NextP Try.prog (builtin Go.Builtin.len #[81] 3 #[false] #[v214]) (fun v217 w =>
      LiftP Try.prog (binS Go.BinOp.lss 3 (Go.Operand.tmp 215) (Go.Operand.tmp 217) (vs_5.headD undef) v217) (fun v218 w =>
      CondP v218 (fun w =>
        JoinP (fun J_6 w =>
        JoinP (fun J_7 w =>
          DrawP (fun S w =>
          YieldN Try.prog S (nilChk v30) (fun v223 w =>
          YieldP Try.prog S (Instr.fieldAt 90 v223 3) (fun v224 w =>
          YieldP Try.prog S (Instr.loadAt 52 v224) (fun v225 w =>
          YieldP Try.prog S (Instr.indexAt 81 v214 (vs_5.headD undef)) (fun v228 w =>
          YieldP Try.prog S (Instr.loadAt 3 v228) (fun v229 w =>
          BothP (fun w =>
          ActP S (fun K w => CallP Try.prog 33 #[v225, v229] K w) (fun S v230_1 w =>
          YieldP Try.prog S (Instr.extract v230_1 0) (fun v231_1 w =>
          YieldP Try.prog S (Instr.extract v230_1 1) (fun v232_1 w =>
          ActP S (fun K w => LiftP Try.prog (Instr.alloc 58 true (.tuple #[])) K w) (fun S v18_1 w =>
          ActP S (fun K w => LiftU Try.prog (Instr.storeAt 58 v18_1 v231_1) K w) (fun S v__4 w =>
          J_7 [v18_1, v232_1] w) w) w) w) w) w) (fun w =>
          BothP (fun w =>
          ActP S (fun K w => LiftP Try.prog (Instr.alloc 58 true (.tuple #[])) K w) (fun S v18 w =>
          ActP S (fun K w => CallP Try.prog 33 #[v225, v229] K w) (fun S v230 w =>
          YieldP Try.prog S (Instr.extract v230 0) (fun v231 w =>
          YieldP Try.prog S (Instr.extract v230 1) (fun v232 w =>
          ActP S (fun K w => LiftU Try.prog (Instr.storeAt 58 v18 v231) K w) (fun S v__3 w =>
          J_7 [v18, v232] w) w) w) w) w) w) (fun w =>
          True) w) w) w) w) w) w) w) w) (fun vs_7 w =>   -- [18, 19]
        LiftP Try.prog (binS Go.BinOp.eql 25 (Go.Operand.tmp 233) (Go.Operand.const (Go.Value.int Go.IntKind.i64 0)) (vs_7.tail.headD undef) (Go.Value.int Go.IntKind.i64 0)) (fun v234 w =>
        CondP v234 (fun w =>
          LiftP Try.prog (Instr.loadAt 58 (vs_7.headD undef)) (fun v236 w =>
          CallP Try.prog 47 #[v30, v236] (fun v237 w =>
          J_6 [] w) w) w) (fun w =>
          J_6 [] w) w) w) w) (fun vs_6 w =>   -- []
      LiftP Try.prog (binS Go.BinOp.add 3 (Go.Operand.tmp 219) (Go.Operand.const (Go.Value.int Go.IntKind.i64 1)) (vs_5.headD undef) (Go.Value.int Go.IntKind.i64 1)) (fun v220 w =>
      J_5 [v220] w) w) w) (fun w =>
        LiftP Try.prog (binS Go.BinOp.add 3 (Go.Operand.tmp 198) (Go.Operand.const (Go.Value.int Go.IntKind.i64 1)) (vs_3.headD undef) (Go.Value.int Go.IntKind.i64 1)) (fun v199 w =>
    J_3 [v199] w) w) w) w) w) [(Go.Value.int Go.IntKind.i64 0)] w) w) w) w) w) w) w) [(Go.Value.int Go.IntKind.i64 0)] w) (fun w =>
      DrawP (fun S w =>
  ActP S (fun K w => CallP Try.prog 48 #[v30] K w) (fun S v239 w =>
  GuardP v239 true (fun K w => K v30 w) (fun v241 w =>
  GuardP v239 true (fun K w => YieldN Try.prog S (nilChk v241) K w) (fun v242 w =>
  GuardP v239 true (fun K w => YieldP Try.prog S (Instr.fieldAt 90 v242 2) K w) (fun v243 w =>
  GuardP v239 true (fun K w => YieldP Try.prog S (Instr.indexAt 88 v243 (Go.Value.int Go.IntKind.i64 0)) K w) (fun v244 w =>
  GuardP v239 true (fun K w => YieldP Try.prog S (Instr.loadAt 37 v244) K w) (fun v245 w =>
  GuardP v239 true (fun K w => YieldN Try.prog S (builtin Go.Builtin.len #[37] 3 #[false] #[v245]) K w) (fun v246 w =>
  GuardP v239 true (fun K w => K v30 w) (fun v247 w =>
  GuardP v239 true (fun K w => YieldN Try.prog S (nilChk v247) K w) (fun v248 w =>
  GuardP v239 true (fun K w => YieldP Try.prog S (Instr.fieldAt 90 v248 1) K w) (fun v249 w =>
  GuardP v239 true (fun K w => YieldP Try.prog S (Instr.indexAt 88 v249 (Go.Value.int Go.IntKind.i64 1)) K w) (fun v250 w =>
  GuardP v239 true (fun K w => YieldP Try.prog S (Instr.loadAt 37 v250) K w) (fun v251 w =>
  GuardP v239 true (fun K w => YieldN Try.prog S (builtin Go.Builtin.len #[37] 3 #[false] #[v251]) K w) (fun v252 w =>
  GuardP v239 true (fun K w => YieldP Try.prog S (binS Go.BinOp.eql 3 (Go.Operand.tmp 246) (Go.Operand.tmp 252) v246 v252) K w) (fun v253 w =>
  PickP v239 v253 (Go.Value.bool false) (fun v254 w =>
  GuardP v254 true (fun K w => K v30 w) (fun v256 w =>
  GuardP v254 true (fun K w => YieldN Try.prog S (nilChk v256) K w) (fun v257 w =>
  GuardP v254 true (fun K w => YieldP Try.prog S (Instr.fieldAt 90 v257 2) K w) (fun v258 w =>
  GuardP v254 true (fun K w => YieldP Try.prog S (Instr.indexAt 88 v258 (Go.Value.int Go.IntKind.i64 1)) K w) (fun v259 w =>
  GuardP v254 true (fun K w => YieldP Try.prog S (Instr.loadAt 37 v259) K w) (fun v260 w =>
  GuardP v254 true (fun K w => YieldN Try.prog S (builtin Go.Builtin.len #[37] 3 #[false] #[v260]) K w) (fun v261 w =>
  GuardP v254 true (fun K w => K v30 w) (fun v262 w =>
  GuardP v254 true (fun K w => YieldN Try.prog S (nilChk v262) K w) (fun v263 w =>
  GuardP v254 true (fun K w => YieldP Try.prog S (Instr.fieldAt 90 v263 1) K w) (fun v264 w =>
  GuardP v254 true (fun K w => YieldP Try.prog S (Instr.indexAt 88 v264 (Go.Value.int Go.IntKind.i64 0)) K w) (fun v265 w =>
  GuardP v254 true (fun K w => YieldP Try.prog S (Instr.loadAt 37 v265) K w) (fun v266 w =>
  GuardP v254 true (fun K w => YieldN Try.prog S (builtin Go.Builtin.len #[37] 3 #[false] #[v266]) K w) (fun v267 w =>
  GuardP v254 true (fun K w => YieldP Try.prog S (binS Go.BinOp.eql 3 (Go.Operand.tmp 261) (Go.Operand.tmp 267) v261 v267) K w) (fun v268 w =>
  PickP v254 v268 (Go.Value.bool false) (fun v269 w =>
  GuardP v269 true (fun K w => K v30 w) (fun v271 w =>
  GuardP v269 true (fun K w => YieldN Try.prog S (nilChk v271) K w) (fun v272 w =>
  GuardP v269 true (fun K w => YieldP Try.prog S (Instr.fieldAt 90 v272 0) K w) (fun v273 w =>
  GuardP v269 true (fun K w => YieldP Try.prog S (Instr.indexAt 87 v273 (Go.Value.int Go.IntKind.i64 0)) K w) (fun v274 w =>
  GuardP v269 true (fun K w => YieldP Try.prog S (Instr.loadAt 23 v274) K w) (fun v275 w =>
  GuardA v269 true S (fun K w => CallP Try.prog 14 #[v275] K w) (fun S v276 w =>
  GuardP v269 true (fun K w => YieldP Try.prog S (binS Go.BinOp.eql 3 (Go.Operand.tmp 276) (Go.Operand.const (Go.Value.int Go.IntKind.i64 0)) v276 (Go.Value.int Go.IntKind.i64 0)) K w) (fun v277 w =>
  PickP v269 v277 (Go.Value.bool false) (fun v278 w =>
  GuardP v278 true (fun K w => K v30 w) (fun v280 w =>
  GuardP v278 true (fun K w => YieldN Try.prog S (nilChk v280) K w) (fun v281 w =>
  GuardP v278 true (fun K w => YieldP Try.prog S (Instr.fieldAt 90 v281 0) K w) (fun v282 w =>
  GuardP v278 true (fun K w => YieldP Try.prog S (Instr.indexAt 87 v282 (Go.Value.int Go.IntKind.i64 1)) K w) (fun v283 w =>
  GuardP v278 true (fun K w => YieldP Try.prog S (Instr.loadAt 23 v283) K w) (fun v284 w =>
  GuardA v278 true S (fun K w => CallP Try.prog 14 #[v284] K w) (fun S v285 w =>
  GuardP v278 true (fun K w => YieldP Try.prog S (binS Go.BinOp.eql 3 (Go.Operand.tmp 285) (Go.Operand.const (Go.Value.int Go.IntKind.i64 0)) v285 (Go.Value.int Go.IntKind.i64 0)) K w) (fun v286 w =>
  PickP v278 v286 (Go.Value.bool false) (fun v287 w =>
  R v287 w) w) w) w) w) w) w) w) w) w) w) w) w) w) w) w) w) w) w) w) w) w) w) w) w) w) w) w) w) w) w) w) w) w) w) w) w) w) w) w) w) w) w) w) w) w) w) w) w) [(Go.Value.int Go.IntKind.i64 0)] w) w) w) w) [(Go.Value.int Go.IntKind.i64 0)] w) w) w) w) w) w) w) w) w) w) w) w) w
theorem S10.calls (a0 : Value) (R : Value → World → Prop) (w : World) (h : S10 a0 R w) : Calls Try.prog 10 #[a0] w fun e w' => ∃ v, e = .returned v ∧ R v w' :=
  calls_of_tr (n := 288) (c := bodyOf Try.f10) (.two .leaf (.two (.two .leaf (.two (.two .leaf .leaf) .leaf)) (.two (.two .leaf (.two (.two .leaf .leaf) .leaf)) (.two .leaf (.two (.two .leaf (.one (.loop [4] (.two (.two .leaf (.two .leaf .leaf)) (.two (.one (.two .leaf (.two .leaf (.two .leaf (.join [7] (.two .leaf (.two .leaf .leaf)) (.join [] (.two .leaf (.one (.two .leaf (.two (.two (.two .leaf (.two (.two .leaf .leaf) .leaf)) (.two (.draw [(true, 0), (true, 1), (true, 2), (true, 3), (true, 4), (true, 5), (true, 6), (true, 7), (true, 8), (true, 9), (true, 10), (false, 11), (true, 12), (true, 13), (true, 14), (true, 15), (true, 16)]) (.two .leaf (.two (.drawL [(true, 0), (true, 1), (true, 2), (true, 3), (true, 4), (true, 5), (true, 6), (true, 7), (true, 8), (true, 9), (true, 10), (true, 11), (true, 12), (true, 15), (true, 16), (false, 13), (false, 14), (true, 17)] 18) .leaf)))) (.two .leaf (.two .leaf (.two .leaf (.two .leaf (.two .leaf (.two (.two .leaf (.two .leaf (.two .leaf .leaf))) (.two .leaf (.two .leaf (.two .leaf (.two (.two .leaf (.two .leaf .leaf)) (.two .leaf (.two (.two .leaf (.two (.two .leaf (.two (.two .leaf .leaf) .leaf)) .leaf)) .leaf)))))))))))))))) (.two .leaf (.two (.two .leaf .leaf) .leaf)))))))) .leaf))))) (.two (.two .leaf (.one (.loop [14] (.two (.two .leaf (.two .leaf .leaf)) (.two (.one (.two (.two .leaf (.one (.loop [15] (.two (.two .leaf (.two .leaf .leaf)) (.two (.one (.two .leaf .leaf)) .leaf))))) (.two .leaf (.two .leaf (.one (.loop [17] (.two (.two .leaf (.two .leaf .leaf)) (.join [] (.one (.join [18, 19] (.drawT (.rd 0 (.rd 1 (.rd 2 (.rd 3 (.rd 4 (.rd 5 (.rd 6 (.rd 7 (.alt 8 (.rd 9 (.rd 10 (.rd 11 (.act 12 (.act 13 (.rd 14 .done)))))) (.alt 12 (.act 8 (.rd 9 (.rd 10 (.rd 11 (.act 13 (.rd 14 .done)))))) .done))))))))))) (.two .leaf (.two .leaf .leaf)))) .leaf)))))))) .leaf))))) (.two (.draw [(true, 0), (false, 1), (true, 2), (true, 3), (true, 4), (true, 5), (true, 6), (true, 7), (true, 8), (true, 9), (true, 10), (true, 11), (true, 12), (true, 13), (true, 14), (true, 15), (true, 16), (true, 17), (true, 18), (true, 19), (true, 20), (true, 21), (true, 22), (true, 23), (true, 24), (true, 25), (true, 26), (true, 27), (true, 28), (true, 29), (true, 30), (true, 31), (true, 32), (true, 33), (true, 34), (true, 35), (true, 36), (true, 37), (false, 38), (true, 39), (true, 40), (true, 41), (true, 42), (true, 43), (true, 44), (true, 45), (true, 46), (false, 47), (true, 48), (true, 49), (true, 50)]) .leaf))))))) Try.func10 (by kernel_rfl) Try.ntmps10 (by kernel_rfl) (by kernel_rfl) [a0] (by kernel_rfl) (of_eq_ (by kernel_rfl) h)

/-- (*shelfmark/shelfmarklaw15.road).post -/
def S45 (a0 a1 a2 : Value) (R : Value → World → Prop) (w : World) : Prop :=
  NextP Try.prog (nilChk a0) (fun v10 w =>
  LiftP Try.prog (Instr.fieldAt 90 v10 0) (fun v11 w =>
  LiftP Try.prog (Instr.indexAt 87 v11 a1) (fun v12 w =>
  LiftP Try.prog (Instr.loadAt 23 v12) (fun v13 w =>
  CallP Try.prog 22 #[v13, a2] (fun v15 w =>
  LoopP (fun J vs w =>   -- [7]
    NextP Try.prog (builtin Go.Builtin.len #[44] 3 #[false] #[v15]) (fun v18 w =>
    LiftP Try.prog (binS Go.BinOp.lss 3 (Go.Operand.tmp 16) (Go.Operand.tmp 18) (vs.headD undef) v18) (fun v19 w =>
    CondP v19 (fun w =>
      DrawP (fun S w =>
    YieldN Try.prog S (nilChk a0) (fun v23 w =>
    YieldP Try.prog S (Instr.fieldAt 90 v23 3) (fun v24 w =>
    YieldP Try.prog S (Instr.loadAt 52 v24) (fun v25 w =>
    YieldP Try.prog S (binS Go.BinOp.sub 3 (Go.Operand.const (Go.Value.int Go.IntKind.i64 1)) (Go.Operand.tmp 26) (Go.Value.int Go.IntKind.i64 1) a1) (fun v27 w =>
    YieldP Try.prog S (Instr.indexAt 44 v15 (vs.headD undef)) (fun v30 w =>
    YieldP Try.prog S (Instr.fieldAt 99 v30 0) (fun v31 w =>
    YieldP Try.prog S (Instr.loadAt 3 v31) (fun v32 w =>
    YieldP Try.prog S (Instr.indexAt 44 v15 (vs.headD undef)) (fun v35 w =>
    YieldP Try.prog S (Instr.fieldAt 99 v35 1) (fun v36 w =>
    YieldP Try.prog S (Instr.loadAt 9 v36) (fun v37 w =>
    ActP S (fun K w => LiftP Try.prog (Instr.build 58 #[(0, (Go.Value.int Go.IntKind.i64 1)), (2, v27), (3, v32), (13, v37)]) K w) (fun S v38 w =>
    CallP Try.prog 30 #[v25, v38] (fun v39 w =>
    LiftP Try.prog (binS Go.BinOp.add 3 (Go.Operand.tmp 20) (Go.Operand.const (Go.Value.int Go.IntKind.i64 1)) (vs.headD undef) (Go.Value.int Go.IntKind.i64 1)) (fun v21 w =>
    J [v21] w) w) w) w) w) w) w) w) w) w) w) w) w) w) w) (fun w =>
      R (.tuple #[]) w) w) w) w) [(Go.Value.int Go.IntKind.i64 0)] w) w) w) w) w) w
theorem S45.calls (a0 a1 a2 : Value) (R : Value → World → Prop) (w : World) (h : S45 a0 a1 a2 R w) : Calls Try.prog 45 #[a0, a1, a2] w fun e w' => ∃ v, e = .returned v ∧ R v w' :=
  calls_of_tr (n := 40) (c := bodyOf Try.f45) (.two .leaf (.two .leaf (.one (.loop [7] (.two (.two .leaf (.two .leaf .leaf)) (.two (.one (.drawL [(true, 0), (true, 1), (true, 2), (true, 3), (true, 4), (true, 5), (true, 6), (true, 7), (true, 8), (true, 9), (true, 10), (true, 11), (true, 12), (true, 13), (true, 14), (true, 15), (false, 16)] 17)) .leaf)))))) Try.func45 (by kernel_rfl) Try.ntmps45 (by kernel_rfl) (by kernel_rfl) [a0, a1, a2] (by kernel_rfl) (of_eq_ (by kernel_rfl) h)

/-- (*shelfmark/shelfmarklaw15.road).tell -/
def S46 (a0 a1 : Value) (R : Value → World → Prop) (w : World) : Prop :=
  DrawP (fun S w =>
  YieldN Try.prog S (nilChk a0) (fun v5 w =>
  YieldP Try.prog S (Instr.fieldAt 90 v5 3) (fun v6 w =>
  YieldP Try.prog S (Instr.loadAt 52 v6) (fun v7 w =>
  YieldP Try.prog S (binS Go.BinOp.sub 3 (Go.Operand.const (Go.Value.int Go.IntKind.i64 1)) (Go.Operand.tmp 8) (Go.Value.int Go.IntKind.i64 1) a1) (fun v9 w =>
  YieldN Try.prog S (nilChk a0) (fun v12 w =>
  YieldP Try.prog S (Instr.fieldAt 90 v12 0) (fun v13 w =>
  YieldP Try.prog S (Instr.indexAt 87 v13 a1) (fun v14 w =>
  YieldP Try.prog S (Instr.loadAt 23 v14) (fun v15 w =>
  ActP S (fun K w => CallP Try.prog 20 #[v15] K w) (fun S v16 w =>
  ActP S (fun K w => LiftP Try.prog (Instr.build 58 #[(0, (Go.Value.int Go.IntKind.i64 2)), (2, v9), (3, v16)]) K w) (fun S v17 w =>
  CallP Try.prog 30 #[v7, v17] (fun v18 w =>
  R (.tuple #[]) w) w) w) w) w) w) w) w) w) w) w) w) w
theorem S46.calls (a0 a1 : Value) (R : Value → World → Prop) (w : World) (h : S46 a0 a1 R w) : Calls Try.prog 46 #[a0, a1] w fun e w' => ∃ v, e = .returned v ∧ R v w' :=
  calls_of_tr (n := 19) (c := bodyOf Try.f46) (.drawL [(true, 0), (true, 1), (true, 2), (true, 3), (true, 4), (true, 5), (true, 6), (true, 7), (true, 8), (true, 9), (true, 10), (true, 11), (false, 12), (false, 13)] 14) Try.func46 (by kernel_rfl) Try.ntmps46 (by kernel_rfl) (by kernel_rfl) [a0, a1] (by kernel_rfl) (of_eq_ (by kernel_rfl) h)

/-- (*shelfmark/shelfmarklaw15.road).bring -/
def S47 (a0 a1 : Value) (R : Value → World → Prop) (w : World) : Prop :=
  LiftP Try.prog (Instr.box 58 a1) (fun v3 w =>
  LiftP Try.prog (Instr.fieldAt 58 v3 2) (fun v5 w =>
  LiftP Try.prog (Instr.loadAt 3 v5) (fun v6 w =>
  LiftP Try.prog (binS Go.BinOp.and 3 (Go.Operand.tmp 6) (Go.Operand.const (Go.Value.int Go.IntKind.i64 1)) v6 (Go.Value.int Go.IntKind.i64 1)) (fun v7 w =>
  LiftP Try.prog (Instr.fieldAt 58 v3 0) (fun v8 w =>
  LiftP Try.prog (Instr.loadAt 3 v8) (fun v9 w =>
  LiftP Try.prog (binS Go.BinOp.eql 3 (Go.Operand.tmp 9) (Go.Operand.const (Go.Value.int Go.IntKind.i64 2)) v9 (Go.Value.int Go.IntKind.i64 2)) (fun v10 w =>
  CondP v10 (fun w =>
    DrawP (fun S w =>
    YieldN Try.prog S (nilChk a0) (fun v13 w =>
    YieldP Try.prog S (Instr.fieldAt 90 v13 0) (fun v14 w =>
    YieldP Try.prog S (Instr.indexAt 87 v14 v7) (fun v15 w =>
    YieldP Try.prog S (Instr.loadAt 23 v15) (fun v16 w =>
    YieldP Try.prog S (Instr.fieldAt 58 v3 3) (fun v17 w =>
    YieldP Try.prog S (Instr.loadAt 3 v17) (fun v18 w =>
    CallP Try.prog 15 #[v16, v18] (fun v19 w =>
    R (.tuple #[]) w) w) w) w) w) w) w) w) w) (fun w =>
    DrawP (fun S w =>
  YieldN Try.prog S (nilChk a0) (fun v22 w =>
  YieldP Try.prog S (Instr.fieldAt 90 v22 0) (fun v23 w =>
  YieldP Try.prog S (Instr.indexAt 87 v23 v7) (fun v24 w =>
  YieldP Try.prog S (Instr.loadAt 23 v24) (fun v25 w =>
  YieldP Try.prog S (Instr.fieldAt 58 v3 3) (fun v26 w =>
  YieldP Try.prog S (Instr.loadAt 3 v26) (fun v27 w =>
  YieldP Try.prog S (Instr.fieldAt 58 v3 13) (fun v28 w =>
  YieldP Try.prog S (Instr.loadAt 9 v28) (fun v29 w =>
  CallP Try.prog 24 #[v25, v27, v29] (fun v30 w =>
  CondP v30 (fun w =>
    DrawP (fun S w =>
    YieldN Try.prog S (nilChk a0) (fun v35 w =>
    YieldP Try.prog S (Instr.fieldAt 90 v35 2) (fun v36 w =>
    YieldP Try.prog S (Instr.indexAt 88 v36 v7) (fun v37 w =>
    YieldP Try.prog S (Instr.loadAt 37 v37) (fun v38 w =>
    YieldP Try.prog S (Instr.fieldAt 58 v3 13) (fun v39 w =>
    YieldP Try.prog S (Instr.loadAt 9 v39) (fun v40 w =>
    YieldN Try.prog S (nilChk a0) (fun v43 w =>
    YieldP Try.prog S (Instr.fieldAt 90 v43 2) (fun v44 w =>
    ActP S (fun K w => LiftP Try.prog (Instr.buildSlice 37 1 #[(0, v40)]) K w) (fun S v41 w =>
    ActP S (fun K w => NextP Try.prog (builtin Go.Builtin.append #[37, 37] 37 #[false, false] #[v38, v41]) K w) (fun S v42 w =>
    YieldP Try.prog S (Instr.indexAt 88 v44 v7) (fun v45 w =>
    LiftU Try.prog (Instr.storeAt 37 v45 v42) (fun v_ w =>
    R (.tuple #[]) w) w) w) w) w) w) w) w) w) w) w) w) w) w) (fun w =>
    R (.tuple #[]) w) w) w) w) w) w) w) w) w) w) w) w) w) w) w) w) w) w) w) w
theorem S47.calls (a0 a1 : Value) (R : Value → World → Prop) (w : World) (h : S47 a0 a1 R w) : Calls Try.prog 47 #[a0, a1] w fun e w' => ∃ v, e = .returned v ∧ R v w' :=
  calls_of_tr (n := 46) (c := bodyOf Try.f47) (.two .leaf (.two .leaf (.two (.two .leaf (.two (.two (.drawL [(true, 0), (true, 1), (true, 2), (true, 3), (true, 4), (true, 5), (true, 6), (true, 7)] 8) .leaf) .leaf)) (.two (.drawL [(true, 0), (true, 1), (true, 2), (true, 3), (true, 4), (true, 5), (true, 6), (true, 7), (true, 8), (true, 9)] 10) (.two (.drawL [(true, 0), (true, 1), (true, 2), (true, 3), (true, 4), (true, 5), (true, 6), (true, 7), (true, 8), (true, 9), (true, 12), (true, 13), (false, 10), (false, 11), (true, 14)] 15) .leaf))))) Try.func47 (by kernel_rfl) Try.ntmps47 (by kernel_rfl) (by kernel_rfl) [a0, a1] (by kernel_rfl) (of_eq_ (by kernel_rfl) h)

/-- (*shelfmark/shelfmarklaw15.road).begins -/
def S48 (a0 : Value) (R : Value → World → Prop) (w : World) : Prop :=
  LoopP (fun J vs w =>   -- [3]
    LiftP Try.prog (binS Go.BinOp.lss 3 (Go.Operand.tmp 6) (Go.Operand.const (Go.Value.int Go.IntKind.i64 2)) (vs.headD undef) (Go.Value.int Go.IntKind.i64 2)) (fun v7 w =>
    CondP v7 (fun w =>
      DrawP (fun S w =>
    YieldN Try.prog S (nilChk a0) (fun v12 w =>
    YieldP Try.prog S (Instr.fieldAt 90 v12 2) (fun v13 w =>
    YieldP Try.prog S (Instr.indexAt 88 v13 (vs.headD undef)) (fun v14 w =>
    YieldP Try.prog S (Instr.loadAt 37 v14) (fun v15 w =>
    YieldP Try.prog S (binS Go.BinOp.sub 3 (Go.Operand.const (Go.Value.int Go.IntKind.i64 1)) (Go.Operand.tmp 17) (Go.Value.int Go.IntKind.i64 1) (vs.headD undef)) (fun v18 w =>
    YieldN Try.prog S (nilChk a0) (fun v19 w =>
    YieldP Try.prog S (Instr.fieldAt 90 v19 1) (fun v20 w =>
    YieldP Try.prog S (Instr.indexAt 88 v20 v18) (fun v21 w =>
    YieldP Try.prog S (Instr.loadAt 37 v21) (fun v22 w =>
    NextP Try.prog (builtin Go.Builtin.len #[37] 3 #[false] #[v15]) (fun v24 w =>
    NextP Try.prog (builtin Go.Builtin.len #[37] 3 #[false] #[v22]) (fun v26 w =>
    LiftP Try.prog (binS Go.BinOp.gtr 3 (Go.Operand.tmp 24) (Go.Operand.tmp 26) v24 v26) (fun v27 w =>
    GuardP v27 false (fun K w => K v15 w) (fun v29 w =>
    GuardP v27 false (fun K w => K v22 w) (fun v30 w =>
    GuardP v27 false (fun K w => K v15 w) (fun v31 w =>
    GuardP v27 false (fun K w => NextP Try.prog (builtin Go.Builtin.len #[37] 3 #[false] #[v31]) K w) (fun v32 w =>
    GuardP v27 false (fun K w => LiftP Try.prog (Instr.sliceAt 37 v30 none (some v32) none) K w) (fun v33 w =>
    GuardP v27 false (fun K w => CallP Try.prog 68 #[v29, v33] K w) (fun v34 w =>
    GuardP v27 false (fun K w => LiftP Try.prog (Op.unary Go.UnOp.not v34) K w) (fun v35 w =>
    PickP v27 (Go.Value.bool true) v35 (fun v36 w =>
    CondP v36 (fun w =>
      R (Go.Value.bool false) w) (fun w =>
      LiftP Try.prog (binS Go.BinOp.add 3 (Go.Operand.tmp 8) (Go.Operand.const (Go.Value.int Go.IntKind.i64 1)) (vs.headD undef) (Go.Value.int Go.IntKind.i64 1)) (fun v9 w =>
    J [v9] w) w) w) w) w) w) w) w) w) w) w) w) w) w) w) w) w) w) w) w) w) w) w) w) (fun w =>
      R (Go.Value.bool true) w) w) w) [(Go.Value.int Go.IntKind.i64 0)] w
theorem S48.calls (a0 : Value) (R : Value → World → Prop) (w : World) (h : S48 a0 R w) : Calls Try.prog 48 #[a0] w fun e w' => ∃ v, e = .returned v ∧ R v w' :=
  calls_of_tr (n := 37) (c := bodyOf Try.f48) (.two .leaf (.two (.two .leaf (.one (.loop [3] (.two (.two .leaf (.two .leaf .leaf)) (.two (.one (.two (.draw [(true, 0), (true, 1), (true, 2), (true, 3), (true, 4), (true, 5), (true, 6), (true, 7), (true, 8), (true, 9), (true, 10), (true, 11), (true, 12), (true, 13), (true, 14)]) (.two .leaf (.two (.two .leaf .leaf) .leaf)))) .leaf))))) (.two .leaf .leaf))) Try.func48 (by kernel_rfl) Try.ntmps48 (by kernel_rfl) (by kernel_rfl) [a0] (by kernel_rfl) (of_eq_ (by kernel_rfl) h)

/-- shelfmark/shelfmarkref01.SameTexts -/
def S68 (a0 a1 : Value) (R : Value → World → Prop) (w : World) : Prop :=
  NextP Try.prog (builtin Go.Builtin.len #[37] 3 #[false] #[a0]) (fun v7 w =>
  NextP Try.prog (builtin Go.Builtin.len #[37] 3 #[false] #[a1]) (fun v9 w =>
  LiftP Try.prog (binS Go.BinOp.neq 3 (Go.Operand.tmp 7) (Go.Operand.tmp 9) v7 v9) (fun v10 w =>
  CondP v10 (fun w =>
    R (Go.Value.bool false) w) (fun w =>
    LoopP (fun J vs w =>   -- [5]
    NextP Try.prog (builtin Go.Builtin.len #[37] 3 #[false] #[a0]) (fun v13 w =>
    LiftP Try.prog (binS Go.BinOp.lss 3 (Go.Operand.tmp 11) (Go.Operand.tmp 13) (vs.headD undef) v13) (fun v14 w =>
    CondP v14 (fun w =>
      DrawP (fun S w =>
    YieldP Try.prog S (Instr.indexAt 37 a0 (vs.headD undef)) (fun v19 w =>
    YieldP Try.prog S (Instr.loadAt 9 v19) (fun v20 w =>
    YieldP Try.prog S (Instr.indexAt 37 a1 (vs.headD undef)) (fun v23 w =>
    YieldP Try.prog S (Instr.loadAt 9 v23) (fun v24 w =>
    YieldP Try.prog S (binS Go.BinOp.neq 9 (Go.Operand.tmp 20) (Go.Operand.tmp 24) v20 v24) (fun v25 w =>
    CondP v25 (fun w =>
      R (Go.Value.bool false) w) (fun w =>
      LiftP Try.prog (binS Go.BinOp.add 3 (Go.Operand.tmp 15) (Go.Operand.const (Go.Value.int Go.IntKind.i64 1)) (vs.headD undef) (Go.Value.int Go.IntKind.i64 1)) (fun v16 w =>
    J [v16] w) w) w) w) w) w) w) w) w) (fun w =>
      R (Go.Value.bool true) w) w) w) w) [(Go.Value.int Go.IntKind.i64 0)] w) w) w) w) w
theorem S68.calls (a0 a1 : Value) (R : Value → World → Prop) (w : World) (h : S68 a0 a1 R w) : Calls Try.prog 68 #[a0, a1] w fun e w' => ∃ v, e = .returned v ∧ R v w' :=
  calls_of_tr (n := 26) (c := bodyOf Try.f68) (.two .leaf (.two (.two .leaf (.two (.two .leaf .leaf) .leaf)) (.two (.two .leaf (.one (.loop [5] (.two (.two .leaf (.two .leaf .leaf)) (.two (.one (.two (.draw [(true, 0), (true, 1), (true, 2), (true, 3), (true, 4), (true, 5), (true, 6), (true, 7), (true, 8)]) (.two (.two .leaf .leaf) .leaf))) .leaf))))) (.two .leaf .leaf)))) Try.func68 (by kernel_rfl) Try.ntmps68 (by kernel_rfl) (by kernel_rfl) [a0, a1] (by kernel_rfl) (of_eq_ (by kernel_rfl) h)

end Go.Proofs.Ythicbfopjakiiaa.E
