import Derived.Test.YtonblppkidpmlaaGreatDoorM1
import Derived.Test.YtonblppkidpmlaaGreatDoorProg
import Derived.KernelRfl
namespace Go.Proofs.YtonblppkidpmlaaGreatDoor.E
open Go
set_option maxRecDepth 100000

/-- shelfmark/shelfmarkref05.Light -/
def S10 (a0 : Value) (R : Value → World → Prop) (w : World) : Prop :=
  LiftP Tryz.prog (Instr.box 26 a0) (fun v1 w =>
  LiftP Tryz.prog (Instr.fieldAt 26 v1 1) (fun v3 w =>
  LiftP Tryz.prog (Instr.loadAt 9 v3) (fun v4 w =>
  NextP Tryz.prog (builtin Go.Builtin.len #[9] 3 #[false] #[v4]) (fun v5 w =>
  LiftP Tryz.prog (binS Go.BinOp.leq 3 (Go.Operand.tmp 5) (Go.Operand.const (Go.Value.int Go.IntKind.i64 300)) v5 (Go.Value.int Go.IntKind.i64 300)) (fun v6 w =>
  GuardP v6 true (fun K w => LiftP Tryz.prog (Instr.fieldAt 26 v1 2) K w) (fun v8 w =>
  GuardP v6 true (fun K w => LiftP Tryz.prog (Instr.loadAt 9 v8) K w) (fun v9 w =>
  GuardP v6 true (fun K w => NextP Tryz.prog (builtin Go.Builtin.len #[9] 3 #[false] #[v9]) K w) (fun v10 w =>
  GuardP v6 true (fun K w => LiftP Tryz.prog (binS Go.BinOp.leq 3 (Go.Operand.tmp 10) (Go.Operand.const (Go.Value.int Go.IntKind.i64 300)) v10 (Go.Value.int Go.IntKind.i64 300)) K w) (fun v11 w =>
  PickP v6 v11 (Go.Value.bool false) (fun v12 w =>
  GuardP v12 true (fun K w => LiftP Tryz.prog (Instr.fieldAt 26 v1 6) K w) (fun v14 w =>
  GuardP v12 true (fun K w => LiftP Tryz.prog (Instr.loadAt 24 v14) K w) (fun v15 w =>
  GuardP v12 true (fun K w => NextP Tryz.prog (builtin Go.Builtin.len #[24] 3 #[false] #[v15]) K w) (fun v16 w =>
  GuardP v12 true (fun K w => LiftP Tryz.prog (binS Go.BinOp.leq 3 (Go.Operand.tmp 16) (Go.Operand.const (Go.Value.int Go.IntKind.i64 300)) v16 (Go.Value.int Go.IntKind.i64 300)) K w) (fun v17 w =>
  PickP v12 v17 (Go.Value.bool false) (fun v18 w =>
  GuardP v18 true (fun K w => LiftP Tryz.prog (Instr.fieldAt 26 v1 3) K w) (fun v20 w =>
  GuardP v18 true (fun K w => LiftP Tryz.prog (Instr.loadAt 23 v20) K w) (fun v21 w =>
  GuardP v18 true (fun K w => CallP Tryz.prog 19 #[v21, (Go.Value.int Go.IntKind.i64 300)] K w) (fun v22 w =>
  PickP v18 v22 (Go.Value.bool false) (fun v23 w =>
  GuardP v23 true (fun K w => LiftP Tryz.prog (Instr.fieldAt 26 v1 4) K w) (fun v25 w =>
  GuardP v23 true (fun K w => LiftP Tryz.prog (Instr.loadAt 23 v25) K w) (fun v26 w =>
  GuardP v23 true (fun K w => CallP Tryz.prog 19 #[v26, (Go.Value.int Go.IntKind.i64 300)] K w) (fun v27 w =>
  PickP v23 v27 (Go.Value.bool false) (fun v28 w =>
  GuardP v28 true (fun K w => LiftP Tryz.prog (Instr.fieldAt 26 v1 7) K w) (fun v30 w =>
  GuardP v28 true (fun K w => LiftP Tryz.prog (Instr.loadAt 22 v30) K w) (fun v31 w =>
  GuardP v28 true (fun K w => CallP Tryz.prog 19 #[v31, (Go.Value.int Go.IntKind.i64 300)] K w) (fun v32 w =>
  PickP v28 v32 (Go.Value.bool false) (fun v33 w =>
  GuardP v33 true (fun K w => LiftP Tryz.prog (Instr.fieldAt 26 v1 8) K w) (fun v35 w =>
  GuardP v33 true (fun K w => LiftP Tryz.prog (Instr.loadAt 22 v35) K w) (fun v36 w =>
  GuardP v33 true (fun K w => CallP Tryz.prog 19 #[v36, (Go.Value.int Go.IntKind.i64 300)] K w) (fun v37 w =>
  PickP v33 v37 (Go.Value.bool false) (fun v38 w =>
  R v38 w) w) w) w) w) w) w) w) w) w) w) w) w) w) w) w) w) w) w) w) w) w) w) w) w) w) w) w) w) w) w) w
theorem S10.calls (a0 : Value) (R : Value → World → Prop) (w : World) (h : S10 a0 R w) : Calls Tryz.prog 10 #[a0] w fun e w' => ∃ v, e = .returned v ∧ R v w' :=
  calls_of_tr (n := 39) (c := bodyOf Tryz.f10) (.two .leaf (.two .leaf .leaf)) Tryz.func10 (by kernel_rfl) Tryz.ntmps10 (by kernel_rfl) (by kernel_rfl) [a0] (by kernel_rfl) (of_eq_ (by kernel_rfl) h)

/-- shelfmark/shelfmarkref05.Check -/
def S12 (a0 : Value) (R : Value → World → Prop) (w : World) : Prop :=
  LiftP Tryz.prog (Instr.box 26 a0) (fun v1 w =>
  LiftP Tryz.prog (Instr.fieldAt 26 v1 0) (fun v6 w =>
  LiftP Tryz.prog (Instr.loadAt 3 v6) (fun v7 w =>
  JoinP (fun J w =>
    LiftP Tryz.prog (binS Go.BinOp.eql 3 (Go.Operand.tmp 7) (Go.Operand.const (Go.Value.int Go.IntKind.i64 1)) v7 (Go.Value.int Go.IntKind.i64 1)) (fun v9 w =>
    CondP v9 (fun w =>
      J [v9] w) (fun w =>
      LiftP Tryz.prog (binS Go.BinOp.eql 3 (Go.Operand.tmp 7) (Go.Operand.const (Go.Value.int Go.IntKind.i64 2)) v7 (Go.Value.int Go.IntKind.i64 2)) (fun v10 w =>
      CondP v10 (fun w =>
        J [v10] w) (fun w =>
        LiftP Tryz.prog (binS Go.BinOp.eql 3 (Go.Operand.tmp 7) (Go.Operand.const (Go.Value.int Go.IntKind.i64 3)) v7 (Go.Value.int Go.IntKind.i64 3)) (fun v11 w =>
        CondP v11 (fun w =>
          J [v11] w) (fun w =>
          LiftP Tryz.prog (binS Go.BinOp.eql 3 (Go.Operand.tmp 7) (Go.Operand.const (Go.Value.int Go.IntKind.i64 4)) v7 (Go.Value.int Go.IntKind.i64 4)) (fun v12 w =>
          J [v12] w) w) w) w) w) w) w) w) (fun vs w =>   -- [8]
  CondP (vs.headD undef) (fun w =>
    LiftP Tryz.prog (Instr.fieldAt 26 v1 1) (fun v13 w =>
    LiftP Tryz.prog (Instr.loadAt 9 v13) (fun v14 w =>
    CallP Tryz.prog 40 #[v14] (fun v15 w =>
    LiftP Tryz.prog (Op.unary Go.UnOp.not v15) (fun v16 w =>
    CondP v16 (fun w =>
      R (Go.Value.int Go.IntKind.i64 1) w) (fun w =>
      JoinP (fun J_1 w =>
      LiftP Tryz.prog (Instr.fieldAt 26 v1 0) (fun v17 w =>
      LiftP Tryz.prog (Instr.loadAt 3 v17) (fun v18 w =>
      LiftP Tryz.prog (binS Go.BinOp.eql 3 (Go.Operand.tmp 18) (Go.Operand.const (Go.Value.int Go.IntKind.i64 1)) v18 (Go.Value.int Go.IntKind.i64 1)) (fun v19 w =>
      GuardP v19 false (fun K w => LiftP Tryz.prog (Instr.fieldAt 26 v1 0) K w) (fun v21 w =>
      GuardP v19 false (fun K w => LiftP Tryz.prog (Instr.loadAt 3 v21) K w) (fun v22 w =>
      GuardP v19 false (fun K w => LiftP Tryz.prog (binS Go.BinOp.eql 3 (Go.Operand.tmp 22) (Go.Operand.const (Go.Value.int Go.IntKind.i64 4)) v22 (Go.Value.int Go.IntKind.i64 4)) K w) (fun v23 w =>
      PickP v19 (Go.Value.bool true) v23 (fun v24 w =>
      CondP v24 (fun w =>
        LiftP Tryz.prog (Instr.fieldAt 26 v1 3) (fun v25 w =>
        LiftP Tryz.prog (Instr.loadAt 23 v25) (fun v26 w =>
        CallP Tryz.prog 41 #[v26] (fun v27 w =>
        LiftP Tryz.prog (binS Go.BinOp.neq 29 (Go.Operand.tmp 28) (Go.Operand.const (Go.Value.int Go.IntKind.i64 0)) v27 (Go.Value.int Go.IntKind.i64 0)) (fun v29 w =>
        CondP v29 (fun w =>
          R v27 w) (fun w =>
          J_1 [] w) w) w) w) w) w) (fun w =>
        J_1 [] w) w) w) w) w) w) w) w) w) (fun vs_1 w =>   -- []
    LiftP Tryz.prog (Instr.fieldAt 26 v1 0) (fun v31 w =>
    LiftP Tryz.prog (Instr.loadAt 3 v31) (fun v32 w =>
    LiftP Tryz.prog (binS Go.BinOp.eql 3 (Go.Operand.tmp 32) (Go.Operand.const (Go.Value.int Go.IntKind.i64 4)) v32 (Go.Value.int Go.IntKind.i64 4)) (fun v33 w =>
    GuardP v33 true (fun K w => LiftP Tryz.prog (Instr.fieldAt 26 v1 4) K w) (fun v35 w =>
    GuardP v33 true (fun K w => LiftP Tryz.prog (Instr.loadAt 23 v35) K w) (fun v36 w =>
    GuardP v33 true (fun K w => NextP Tryz.prog (builtin Go.Builtin.len #[23] 3 #[false] #[v36]) K w) (fun v37 w =>
    GuardP v33 true (fun K w => LiftP Tryz.prog (binS Go.BinOp.gtr 3 (Go.Operand.tmp 37) (Go.Operand.const (Go.Value.int Go.IntKind.i64 0)) v37 (Go.Value.int Go.IntKind.i64 0)) K w) (fun v38 w =>
    PickP v33 v38 (Go.Value.bool false) (fun v39 w =>
    CondP v39 (fun w =>
      LiftP Tryz.prog (Instr.fieldAt 26 v1 4) (fun v40 w =>
      LiftP Tryz.prog (Instr.loadAt 23 v40) (fun v41 w =>
      CallP Tryz.prog 41 #[v41] (fun v42 w =>
      R v42 w) w) w) w) (fun w =>
      R (Go.Value.int Go.IntKind.i64 0) w) w) w) w) w) w) w) w) w) w) w) w) w) w) w) w) (fun w =>
    LiftP Tryz.prog (binS Go.BinOp.eql 3 (Go.Operand.tmp 7) (Go.Operand.const (Go.Value.int Go.IntKind.i64 5)) v7 (Go.Value.int Go.IntKind.i64 5)) (fun v44 w =>
    CondP v44 (fun w =>
      LiftP Tryz.prog (Instr.fieldAt 26 v1 1) (fun v45 w =>
      LiftP Tryz.prog (Instr.loadAt 9 v45) (fun v46 w =>
      NextP Tryz.prog (builtin Go.Builtin.len #[9] 3 #[false] #[v46]) (fun v47 w =>
      LiftP Tryz.prog (binS Go.BinOp.gtr 3 (Go.Operand.tmp 47) (Go.Operand.const (Go.Value.int Go.IntKind.i64 16)) v47 (Go.Value.int Go.IntKind.i64 16)) (fun v48 w =>
      GuardP v48 false (fun K w => LiftP Tryz.prog (Instr.fieldAt 26 v1 2) K w) (fun v50 w =>
      GuardP v48 false (fun K w => LiftP Tryz.prog (Instr.loadAt 9 v50) K w) (fun v51 w =>
      GuardP v48 false (fun K w => NextP Tryz.prog (builtin Go.Builtin.len #[9] 3 #[false] #[v51]) K w) (fun v52 w =>
      GuardP v48 false (fun K w => LiftP Tryz.prog (binS Go.BinOp.gtr 3 (Go.Operand.tmp 52) (Go.Operand.const (Go.Value.int Go.IntKind.i64 16)) v52 (Go.Value.int Go.IntKind.i64 16)) K w) (fun v53 w =>
      PickP v48 (Go.Value.bool true) v53 (fun v54 w =>
      GuardP v54 false (fun K w => LiftP Tryz.prog (Instr.fieldAt 26 v1 9) K w) (fun v56 w =>
      GuardP v54 false (fun K w => LiftP Tryz.prog (Instr.loadAt 3 v56) K w) (fun v57 w =>
      GuardP v54 false (fun K w => CallP Tryz.prog 42 #[v57] K w) (fun v58 w =>
      GuardP v54 false (fun K w => LiftP Tryz.prog (Op.unary Go.UnOp.not v58) K w) (fun v59 w =>
      PickP v54 (Go.Value.bool true) v59 (fun v60 w =>
      CondP v60 (fun w =>
        R (Go.Value.int Go.IntKind.i64 1) w) (fun w =>
        R (Go.Value.int Go.IntKind.i64 0) w) w) w) w) w) w) w) w) w) w) w) w) w) w) w) w) (fun w =>
      LiftP Tryz.prog (binS Go.BinOp.eql 3 (Go.Operand.tmp 7) (Go.Operand.const (Go.Value.int Go.IntKind.i64 6)) v7 (Go.Value.int Go.IntKind.i64 6)) (fun v62 w =>
      CondP v62 (fun w =>
        LiftP Tryz.prog (Instr.fieldAt 26 v1 5) (fun v63 w =>
        LiftP Tryz.prog (Instr.loadAt 3 v63) (fun v64 w =>
        LiftP Tryz.prog (binS Go.BinOp.lss 3 (Go.Operand.tmp 64) (Go.Operand.const (Go.Value.int Go.IntKind.i64 1)) v64 (Go.Value.int Go.IntKind.i64 1)) (fun v65 w =>
        GuardP v65 false (fun K w => LiftP Tryz.prog (Instr.fieldAt 26 v1 5) K w) (fun v67 w =>
        GuardP v65 false (fun K w => LiftP Tryz.prog (Instr.loadAt 3 v67) K w) (fun v68 w =>
        GuardP v65 false (fun K w => LiftP Tryz.prog (binS Go.BinOp.gtr 3 (Go.Operand.tmp 68) (Go.Operand.const (Go.Value.int Go.IntKind.i64 6)) v68 (Go.Value.int Go.IntKind.i64 6)) K w) (fun v69 w =>
        PickP v65 (Go.Value.bool true) v69 (fun v70 w =>
        CondP v70 (fun w =>
          R (Go.Value.int Go.IntKind.i64 1) w) (fun w =>
          LiftP Tryz.prog (Instr.fieldAt 26 v1 7) (fun v71 w =>
        LiftP Tryz.prog (Instr.loadAt 22 v71) (fun v72 w =>
        CallP Tryz.prog 43 #[v72] (fun v73 w =>
        LiftP Tryz.prog (binS Go.BinOp.neq 29 (Go.Operand.tmp 74) (Go.Operand.const (Go.Value.int Go.IntKind.i64 0)) v73 (Go.Value.int Go.IntKind.i64 0)) (fun v75 w =>
        CondP v75 (fun w =>
          R v73 w) (fun w =>
          LiftP Tryz.prog (Instr.fieldAt 26 v1 8) (fun v77 w =>
        LiftP Tryz.prog (Instr.loadAt 22 v77) (fun v78 w =>
        CallP Tryz.prog 43 #[v78] (fun v79 w =>
        LiftP Tryz.prog (binS Go.BinOp.neq 29 (Go.Operand.tmp 80) (Go.Operand.const (Go.Value.int Go.IntKind.i64 0)) v79 (Go.Value.int Go.IntKind.i64 0)) (fun v81 w =>
        CondP v81 (fun w =>
          R v79 w) (fun w =>
          LiftP Tryz.prog (Instr.fieldAt 26 v1 9) (fun v83 w =>
        LiftP Tryz.prog (Instr.loadAt 3 v83) (fun v84 w =>
        CallP Tryz.prog 42 #[v84] (fun v85 w =>
        LiftP Tryz.prog (Op.unary Go.UnOp.not v85) (fun v86 w =>
        CondP v86 (fun w =>
          R (Go.Value.int Go.IntKind.i64 1) w) (fun w =>
          R (Go.Value.int Go.IntKind.i64 0) w) w) w) w) w) w) w) w) w) w) w) w) w) w) w) w) w) w) w) w) w) w) w) w) (fun w =>
        LiftP Tryz.prog (binS Go.BinOp.eql 3 (Go.Operand.tmp 7) (Go.Operand.const (Go.Value.int Go.IntKind.i64 7)) v7 (Go.Value.int Go.IntKind.i64 7)) (fun v88 w =>
        CondP v88 (fun w =>
          LiftP Tryz.prog (Instr.fieldAt 26 v1 6) (fun v89 w =>
          LiftP Tryz.prog (Instr.loadAt 24 v89) (fun v90 w =>
          LiftP Tryz.prog (Instr.build 53 #[(0, (Go.Value.int Go.IntKind.i64 1)), (1, v90)]) (fun v91 w =>
          CallP Tryz.prog 44 #[v91] (fun v92 w =>
          R v92 w) w) w) w) w) (fun w =>
          LiftP Tryz.prog (binS Go.BinOp.eql 3 (Go.Operand.tmp 7) (Go.Operand.const (Go.Value.int Go.IntKind.i64 8)) v7 (Go.Value.int Go.IntKind.i64 8)) (fun v94 w =>
          CondP v94 (fun w =>
            LiftP Tryz.prog (Instr.fieldAt 26 v1 5) (fun v95 w =>
            LiftP Tryz.prog (Instr.loadAt 3 v95) (fun v96 w =>
            LiftP Tryz.prog (binS Go.BinOp.lss 3 (Go.Operand.tmp 96) (Go.Operand.const (Go.Value.int Go.IntKind.i64 1)) v96 (Go.Value.int Go.IntKind.i64 1)) (fun v97 w =>
            GuardP v97 false (fun K w => LiftP Tryz.prog (Instr.fieldAt 26 v1 5) K w) (fun v99 w =>
            GuardP v97 false (fun K w => LiftP Tryz.prog (Instr.loadAt 3 v99) K w) (fun v100 w =>
            GuardP v97 false (fun K w => LiftP Tryz.prog (binS Go.BinOp.gtr 3 (Go.Operand.tmp 100) (Go.Operand.const (Go.Value.int Go.IntKind.i64 6)) v100 (Go.Value.int Go.IntKind.i64 6)) K w) (fun v101 w =>
            PickP v97 (Go.Value.bool true) v101 (fun v102 w =>
            CondP v102 (fun w =>
              R (Go.Value.int Go.IntKind.i64 1) w) (fun w =>
              R (Go.Value.int Go.IntKind.i64 0) w) w) w) w) w) w) w) w) w) (fun w =>
            JoinP (fun J_2 w =>
              LiftP Tryz.prog (binS Go.BinOp.eql 3 (Go.Operand.tmp 7) (Go.Operand.const (Go.Value.int Go.IntKind.i64 9)) v7 (Go.Value.int Go.IntKind.i64 9)) (fun v104 w =>
              CondP v104 (fun w =>
                J_2 [v104] w) (fun w =>
                LiftP Tryz.prog (binS Go.BinOp.eql 3 (Go.Operand.tmp 7) (Go.Operand.const (Go.Value.int Go.IntKind.i64 10)) v7 (Go.Value.int Go.IntKind.i64 10)) (fun v105 w =>
                CondP v105 (fun w =>
                  J_2 [v105] w) (fun w =>
                  LiftP Tryz.prog (binS Go.BinOp.eql 3 (Go.Operand.tmp 7) (Go.Operand.const (Go.Value.int Go.IntKind.i64 11)) v7 (Go.Value.int Go.IntKind.i64 11)) (fun v106 w =>
                  J_2 [v106] w) w) w) w) w) w) (fun vs_2 w =>   -- [103]
            CondP (vs_2.headD undef) (fun w =>
              LiftP Tryz.prog (Instr.fieldAt 26 v1 10) (fun v107 w =>
              LiftP Tryz.prog (Instr.loadAt 3 v107) (fun v108 w =>
              LiftP Tryz.prog (binS Go.BinOp.neq 3 (Go.Operand.tmp 108) (Go.Operand.const (Go.Value.int Go.IntKind.i64 0)) v108 (Go.Value.int Go.IntKind.i64 0)) (fun v109 w =>
              GuardP v109 true (fun K w => LiftP Tryz.prog (Instr.fieldAt 26 v1 10) K w) (fun v111 w =>
              GuardP v109 true (fun K w => LiftP Tryz.prog (Instr.loadAt 3 v111) K w) (fun v112 w =>
              GuardP v109 true (fun K w => LiftP Tryz.prog (binS Go.BinOp.neq 3 (Go.Operand.tmp 112) (Go.Operand.const (Go.Value.int Go.IntKind.i64 1)) v112 (Go.Value.int Go.IntKind.i64 1)) K w) (fun v113 w =>
              PickP v109 v113 (Go.Value.bool false) (fun v114 w =>
              GuardP v114 false (fun K w => LiftP Tryz.prog (Instr.fieldAt 26 v1 1) K w) (fun v116 w =>
              GuardP v114 false (fun K w => LiftP Tryz.prog (Instr.loadAt 9 v116) K w) (fun v117 w =>
              GuardP v114 false (fun K w => NextP Tryz.prog (builtin Go.Builtin.len #[9] 3 #[false] #[v117]) K w) (fun v118 w =>
              GuardP v114 false (fun K w => LiftP Tryz.prog (binS Go.BinOp.gtr 3 (Go.Operand.tmp 118) (Go.Operand.const (Go.Value.int Go.IntKind.i64 100)) v118 (Go.Value.int Go.IntKind.i64 100)) K w) (fun v119 w =>
              PickP v114 (Go.Value.bool true) v119 (fun v120 w =>
              GuardP v120 false (fun K w => LiftP Tryz.prog (Instr.fieldAt 26 v1 0) K w) (fun v122 w =>
              GuardP v120 false (fun K w => LiftP Tryz.prog (Instr.loadAt 3 v122) K w) (fun v123 w =>
              GuardP v120 false (fun K w => LiftP Tryz.prog (binS Go.BinOp.neq 3 (Go.Operand.tmp 123) (Go.Operand.const (Go.Value.int Go.IntKind.i64 11)) v123 (Go.Value.int Go.IntKind.i64 11)) K w) (fun v124 w =>
              GuardP v120 false (fun K w => K v124 w) (fun v125 w =>
              GuardP v125 true (fun K w => LiftP Tryz.prog (Instr.fieldAt 26 v1 1) K w) (fun v126 w =>
              GuardP v125 true (fun K w => LiftP Tryz.prog (Instr.loadAt 9 v126) K w) (fun v127 w =>
              GuardP v125 true (fun K w => LiftP Tryz.prog (binS Go.BinOp.eql 9 (Go.Operand.tmp 127) (Go.Operand.const (Go.Value.string { data := #[] })) v127 (Go.Value.string { data := #[] })) K w) (fun v128 w =>
              GuardP v120 false (fun K w => PickP v125 v128 (Go.Value.bool false) K w) (fun v129 w =>
              PickP v120 (Go.Value.bool true) v129 (fun v130 w =>
              GuardP v130 false (fun K w => LiftP Tryz.prog (Instr.fieldAt 26 v1 0) K w) (fun v132 w =>
              GuardP v130 false (fun K w => LiftP Tryz.prog (Instr.loadAt 3 v132) K w) (fun v133 w =>
              GuardP v130 false (fun K w => LiftP Tryz.prog (binS Go.BinOp.eql 3 (Go.Operand.tmp 133) (Go.Operand.const (Go.Value.int Go.IntKind.i64 11)) v133 (Go.Value.int Go.IntKind.i64 11)) K w) (fun v134 w =>
              GuardP v130 false (fun K w => K v134 w) (fun v135 w =>
              GuardP v135 true (fun K w => LiftP Tryz.prog (Instr.fieldAt 26 v1 11) K w) (fun v136 w =>
              GuardP v135 true (fun K w => LiftP Tryz.prog (Instr.loadAt 3 v136) K w) (fun v137 w =>
              GuardP v135 true (fun K w => LiftP Tryz.prog (binS Go.BinOp.lss 3 (Go.Operand.tmp 137) (Go.Operand.const (Go.Value.int Go.IntKind.i64 1)) v137 (Go.Value.int Go.IntKind.i64 1)) K w) (fun v138 w =>
              GuardP v135 true (fun K w => K v138 w) (fun v139 w =>
              GuardP v139 false (fun K w => LiftP Tryz.prog (Instr.fieldAt 26 v1 11) K w) (fun v140 w =>
              GuardP v139 false (fun K w => LiftP Tryz.prog (Instr.loadAt 3 v140) K w) (fun v141 w =>
              GuardP v139 false (fun K w => LiftP Tryz.prog (binS Go.BinOp.gtr 3 (Go.Operand.tmp 141) (Go.Operand.const (Go.Value.int Go.IntKind.i64 4)) v141 (Go.Value.int Go.IntKind.i64 4)) K w) (fun v142 w =>
              GuardP v135 true (fun K w => PickP v139 (Go.Value.bool true) v142 K w) (fun v143 w =>
              GuardP v130 false (fun K w => PickP v135 v143 (Go.Value.bool false) K w) (fun v144 w =>
              PickP v130 (Go.Value.bool true) v144 (fun v145 w =>
              CondP v145 (fun w =>
                R (Go.Value.int Go.IntKind.i64 1) w) (fun w =>
                R (Go.Value.int Go.IntKind.i64 0) w) w) w) w) w) w) w) w) w) w) w) w) w) w) w) w) w) w) w) w) w) w) w) w) w) w) w) w) w) w) w) w) w) w) w) w) w) (fun w =>
              LiftP Tryz.prog (binS Go.BinOp.eql 3 (Go.Operand.tmp 7) (Go.Operand.const (Go.Value.int Go.IntKind.i64 12)) v7 (Go.Value.int Go.IntKind.i64 12)) (fun v147 w =>
              CondP v147 (fun w =>
                R (Go.Value.int Go.IntKind.i64 0) w) (fun w =>
                R (Go.Value.int Go.IntKind.i64 1) w) w) w) w) w) w) w) w) w) w) w) w) w) w) w) w) w) w
theorem S12.calls (a0 : Value) (R : Value → World → Prop) (w : World) (h : S12 a0 R w) : Calls Tryz.prog 12 #[a0] w fun e w' => ∃ v, e = .returned v ∧ R v w' :=
  calls_of_tr (n := 148) (c := bodyOf Tryz.f12) (.two .leaf (.two (.two .leaf (.one (.join [8] (.two .leaf (.two .leaf (.two .leaf (.two .leaf (.two .leaf (.two .leaf .leaf)))))) (.two (.two (.two .leaf (.two (.two .leaf .leaf) .leaf)) (.join [] (.two .leaf (.two (.two .leaf (.two .leaf (.two (.two .leaf .leaf) .leaf))) .leaf)) (.two (.two .leaf (.two (.two .leaf .leaf) .leaf)) (.two .leaf .leaf)))) (.two .leaf (.two (.two (.two .leaf (.two (.two .leaf .leaf) .leaf)) (.two .leaf .leaf)) (.two .leaf (.two (.two (.two .leaf (.two (.two .leaf .leaf) .leaf)) (.two (.two .leaf (.two .leaf (.two (.two .leaf .leaf) .leaf))) (.two (.two .leaf (.two .leaf (.two (.two .leaf .leaf) .leaf))) (.two (.two .leaf (.two (.two .leaf .leaf) .leaf)) (.two .leaf .leaf))))) (.two .leaf (.two (.two .leaf .leaf) (.two .leaf (.two (.two (.two .leaf (.two (.two .leaf .leaf) .leaf)) (.two .leaf .leaf)) (.join [103] (.two .leaf (.two .leaf (.two .leaf (.two .leaf .leaf)))) (.two (.two (.two .leaf (.two (.two .leaf .leaf) .leaf)) (.two .leaf .leaf)) (.two .leaf (.two (.two .leaf .leaf) .leaf)))))))))))))))) (.two .leaf .leaf))) Tryz.func12 (by kernel_rfl) Tryz.ntmps12 (by kernel_rfl) (by kernel_rfl) [a0] (by kernel_rfl) (of_eq_ (by kernel_rfl) h)

/-- shelfmark/shelfmarkref05.AllLight -/
def S13 (a0 a1 : Value) (R : Value → World → Prop) (w : World) : Prop :=
  NextP Tryz.prog (builtin Go.Builtin.len #[31] 3 #[false] #[a0]) (fun v7 w =>
  LiftP Tryz.prog (binS Go.BinOp.gtr 3 (Go.Operand.tmp 7) (Go.Operand.tmp 8) v7 a1) (fun v9 w =>
  CondP v9 (fun w =>
    R (Go.Value.bool false) w) (fun w =>
    LoopP (fun J vs w =>   -- [5]
    NextP Tryz.prog (builtin Go.Builtin.len #[31] 3 #[false] #[a0]) (fun v12 w =>
    LiftP Tryz.prog (binS Go.BinOp.lss 3 (Go.Operand.tmp 10) (Go.Operand.tmp 12) (vs.headD undef) v12) (fun v13 w =>
    CondP v13 (fun w =>
      LiftP Tryz.prog (Instr.indexAt 31 a0 (vs.headD undef)) (fun v18 w =>
    LiftP Tryz.prog (Instr.loadAt 26 v18) (fun v19 w =>
    CallP Tryz.prog 10 #[v19] (fun v20 w =>
    LiftP Tryz.prog (Op.unary Go.UnOp.not v20) (fun v21 w =>
    CondP v21 (fun w =>
      R (Go.Value.bool false) w) (fun w =>
      LiftP Tryz.prog (binS Go.BinOp.add 3 (Go.Operand.tmp 14) (Go.Operand.const (Go.Value.int Go.IntKind.i64 1)) (vs.headD undef) (Go.Value.int Go.IntKind.i64 1)) (fun v15 w =>
    J [v15] w) w) w) w) w) w) w) (fun w =>
      R (Go.Value.bool true) w) w) w) w) [(Go.Value.int Go.IntKind.i64 0)] w) w) w) w
theorem S13.calls (a0 a1 : Value) (R : Value → World → Prop) (w : World) (h : S13 a0 a1 R w) : Calls Tryz.prog 13 #[a0, a1] w fun e w' => ∃ v, e = .returned v ∧ R v w' :=
  calls_of_tr (n := 22) (c := bodyOf Tryz.f13) (.two .leaf (.two (.two .leaf (.two (.two .leaf .leaf) .leaf)) (.two (.two .leaf (.one (.loop [5] (.two (.two .leaf (.two .leaf .leaf)) (.two (.one (.two .leaf (.two (.two .leaf .leaf) .leaf))) .leaf))))) (.two .leaf .leaf)))) Tryz.func13 (by kernel_rfl) Tryz.ntmps13 (by kernel_rfl) (by kernel_rfl) [a0, a1] (by kernel_rfl) (of_eq_ (by kernel_rfl) h)

/-- shelfmark/shelfmarkref05.SameRows -/
def S16 (a0 a1 : Value) (R : Value → World → Prop) (w : World) : Prop :=
  NextP Tryz.prog (builtin Go.Builtin.len #[35] 3 #[false] #[a0]) (fun v7 w =>
  NextP Tryz.prog (builtin Go.Builtin.len #[35] 3 #[false] #[a1]) (fun v9 w =>
  LiftP Tryz.prog (binS Go.BinOp.neq 3 (Go.Operand.tmp 7) (Go.Operand.tmp 9) v7 v9) (fun v10 w =>
  CondP v10 (fun w =>
    R (Go.Value.bool false) w) (fun w =>
    LoopP (fun J vs w =>   -- [5]
    NextP Tryz.prog (builtin Go.Builtin.len #[35] 3 #[false] #[a0]) (fun v13 w =>
    LiftP Tryz.prog (binS Go.BinOp.lss 3 (Go.Operand.tmp 11) (Go.Operand.tmp 13) (vs.headD undef) v13) (fun v14 w =>
    CondP v14 (fun w =>
      DrawP (fun S w =>
    YieldP Tryz.prog S (Instr.indexAt 35 a0 (vs.headD undef)) (fun v19 w =>
    YieldP Tryz.prog S (Instr.fieldAt 40 v19 0) (fun v20 w =>
    YieldP Tryz.prog S (Instr.loadAt 9 v20) (fun v21 w =>
    YieldP Tryz.prog S (Instr.indexAt 35 a1 (vs.headD undef)) (fun v24 w =>
    YieldP Tryz.prog S (Instr.fieldAt 40 v24 0) (fun v25 w =>
    YieldP Tryz.prog S (Instr.loadAt 9 v25) (fun v26 w =>
    YieldP Tryz.prog S (binS Go.BinOp.neq 9 (Go.Operand.tmp 21) (Go.Operand.tmp 26) v21 v26) (fun v27 w =>
    GuardP v27 false (fun K w => K a0 w) (fun v29 w =>
    GuardP v27 false (fun K w => K (vs.headD undef) w) (fun v30 w =>
    GuardP v27 false (fun K w => YieldP Tryz.prog S (Instr.indexAt 35 v29 v30) K w) (fun v31 w =>
    GuardP v27 false (fun K w => YieldP Tryz.prog S (Instr.fieldAt 40 v31 1) K w) (fun v32 w =>
    GuardP v27 false (fun K w => YieldP Tryz.prog S (Instr.loadAt 23 v32) K w) (fun v33 w =>
    GuardP v27 false (fun K w => K a1 w) (fun v34 w =>
    GuardP v27 false (fun K w => K (vs.headD undef) w) (fun v35 w =>
    GuardP v27 false (fun K w => YieldP Tryz.prog S (Instr.indexAt 35 v34 v35) K w) (fun v36 w =>
    GuardP v27 false (fun K w => YieldP Tryz.prog S (Instr.fieldAt 40 v36 1) K w) (fun v37 w =>
    GuardP v27 false (fun K w => YieldP Tryz.prog S (Instr.loadAt 23 v37) K w) (fun v38 w =>
    GuardA v27 false S (fun K w => CallP Tryz.prog 17 #[v33, v38] K w) (fun S v39 w =>
    GuardP v27 false (fun K w => YieldP Tryz.prog S (Op.unary Go.UnOp.not v39) K w) (fun v40 w =>
    PickP v27 (Go.Value.bool true) v40 (fun v41 w =>
    CondP v41 (fun w =>
      R (Go.Value.bool false) w) (fun w =>
      LiftP Tryz.prog (binS Go.BinOp.add 3 (Go.Operand.tmp 15) (Go.Operand.const (Go.Value.int Go.IntKind.i64 1)) (vs.headD undef) (Go.Value.int Go.IntKind.i64 1)) (fun v16 w =>
    J [v16] w) w) w) w) w) w) w) w) w) w) w) w) w) w) w) w) w) w) w) w) w) w) w) w) (fun w =>
      R (Go.Value.bool true) w) w) w) w) [(Go.Value.int Go.IntKind.i64 0)] w) w) w) w) w
theorem S16.calls (a0 a1 : Value) (R : Value → World → Prop) (w : World) (h : S16 a0 a1 R w) : Calls Tryz.prog 16 #[a0, a1] w fun e w' => ∃ v, e = .returned v ∧ R v w' :=
  calls_of_tr (n := 42) (c := bodyOf Tryz.f16) (.two .leaf (.two (.two .leaf (.two (.two .leaf .leaf) .leaf)) (.two (.two .leaf (.one (.loop [5] (.two (.two .leaf (.two .leaf .leaf)) (.two (.one (.two (.draw [(true, 0), (true, 1), (true, 2), (true, 3), (true, 4), (true, 5), (true, 6), (true, 7), (true, 8), (true, 9), (true, 10), (true, 11), (true, 12), (true, 13), (true, 14), (true, 15), (true, 16), (true, 17), (true, 18), (true, 19), (true, 20), (true, 21), (false, 22), (true, 23), (true, 24)]) (.two (.two .leaf .leaf) .leaf))) .leaf))))) (.two .leaf .leaf)))) Tryz.func16 (by kernel_rfl) Tryz.ntmps16 (by kernel_rfl) (by kernel_rfl) [a0, a1] (by kernel_rfl) (of_eq_ (by kernel_rfl) h)

/-- shelfmark/shelfmarkref03.Same -/
def S17 (a0 a1 : Value) (R : Value → World → Prop) (w : World) : Prop :=
  NextP Tryz.prog (builtin Go.Builtin.len #[22] 3 #[false] #[a0]) (fun v7 w =>
  NextP Tryz.prog (builtin Go.Builtin.len #[22] 3 #[false] #[a1]) (fun v9 w =>
  LiftP Tryz.prog (binS Go.BinOp.neq 3 (Go.Operand.tmp 7) (Go.Operand.tmp 9) v7 v9) (fun v10 w =>
  CondP v10 (fun w =>
    R (Go.Value.bool false) w) (fun w =>
    LoopP (fun J vs w =>   -- [5]
    NextP Tryz.prog (builtin Go.Builtin.len #[22] 3 #[false] #[a0]) (fun v13 w =>
    LiftP Tryz.prog (binS Go.BinOp.lss 3 (Go.Operand.tmp 11) (Go.Operand.tmp 13) (vs.headD undef) v13) (fun v14 w =>
    CondP v14 (fun w =>
      DrawP (fun S w =>
    YieldP Tryz.prog S (Instr.indexAt 22 a0 (vs.headD undef)) (fun v19 w =>
    YieldP Tryz.prog S (Instr.loadAt 67 v19) (fun v20 w =>
    YieldP Tryz.prog S (Instr.indexAt 22 a1 (vs.headD undef)) (fun v23 w =>
    YieldP Tryz.prog S (Instr.loadAt 67 v23) (fun v24 w =>
    YieldP Tryz.prog S (binS Go.BinOp.neq 67 (Go.Operand.tmp 20) (Go.Operand.tmp 24) v20 v24) (fun v25 w =>
    CondP v25 (fun w =>
      R (Go.Value.bool false) w) (fun w =>
      LiftP Tryz.prog (binS Go.BinOp.add 3 (Go.Operand.tmp 15) (Go.Operand.const (Go.Value.int Go.IntKind.i64 1)) (vs.headD undef) (Go.Value.int Go.IntKind.i64 1)) (fun v16 w =>
    J [v16] w) w) w) w) w) w) w) w) w) (fun w =>
      R (Go.Value.bool true) w) w) w) w) [(Go.Value.int Go.IntKind.i64 0)] w) w) w) w) w
theorem S17.calls (a0 a1 : Value) (R : Value → World → Prop) (w : World) (h : S17 a0 a1 R w) : Calls Tryz.prog 17 #[a0, a1] w fun e w' => ∃ v, e = .returned v ∧ R v w' :=
  calls_of_tr (n := 26) (c := bodyOf Tryz.f17) (.two .leaf (.two (.two .leaf (.two (.two .leaf .leaf) .leaf)) (.two (.two .leaf (.one (.loop [5] (.two (.two .leaf (.two .leaf .leaf)) (.two (.one (.two (.draw [(true, 0), (true, 1), (true, 2), (true, 3), (true, 4), (true, 5), (true, 6), (true, 7), (true, 8)]) (.two (.two .leaf .leaf) .leaf))) .leaf))))) (.two .leaf .leaf)))) Tryz.func17 (by kernel_rfl) Tryz.ntmps17 (by kernel_rfl) (by kernel_rfl) [a0, a1] (by kernel_rfl) (of_eq_ (by kernel_rfl) h)

/-- shelfmark/shelfmarkref05.SameReply -/
def S18 (a0 a1 : Value) (R : Value → World → Prop) (w : World) : Prop :=
  LiftP Tryz.prog (Instr.box 37 a0) (fun v2 w =>
  LiftP Tryz.prog (Instr.box 37 a1) (fun v3 w =>
  LiftP Tryz.prog (Instr.fieldAt 37 v2 0) (fun v5 w =>
  LiftP Tryz.prog (Instr.loadAt 29 v5) (fun v6 w =>
  LiftP Tryz.prog (Instr.fieldAt 37 v3 0) (fun v7 w =>
  LiftP Tryz.prog (Instr.loadAt 29 v7) (fun v8 w =>
  LiftP Tryz.prog (binS Go.BinOp.eql 29 (Go.Operand.tmp 6) (Go.Operand.tmp 8) v6 v8) (fun v9 w =>
  GuardP v9 true (fun K w => LiftP Tryz.prog (Instr.fieldAt 37 v2 1) K w) (fun v11 w =>
  GuardP v9 true (fun K w => LiftP Tryz.prog (Instr.loadAt 4 v11) K w) (fun v12 w =>
  GuardP v9 true (fun K w => LiftP Tryz.prog (Instr.fieldAt 37 v3 1) K w) (fun v13 w =>
  GuardP v9 true (fun K w => LiftP Tryz.prog (Instr.loadAt 4 v13) K w) (fun v14 w =>
  GuardP v9 true (fun K w => LiftP Tryz.prog (binS Go.BinOp.eql 4 (Go.Operand.tmp 12) (Go.Operand.tmp 14) v12 v14) K w) (fun v15 w =>
  PickP v9 v15 (Go.Value.bool false) (fun v16 w =>
  GuardP v16 true (fun K w => LiftP Tryz.prog (Instr.fieldAt 37 v2 4) K w) (fun v18 w =>
  GuardP v16 true (fun K w => LiftP Tryz.prog (Instr.loadAt 3 v18) K w) (fun v19 w =>
  GuardP v16 true (fun K w => LiftP Tryz.prog (Instr.fieldAt 37 v3 4) K w) (fun v20 w =>
  GuardP v16 true (fun K w => LiftP Tryz.prog (Instr.loadAt 3 v20) K w) (fun v21 w =>
  GuardP v16 true (fun K w => LiftP Tryz.prog (binS Go.BinOp.eql 3 (Go.Operand.tmp 19) (Go.Operand.tmp 21) v19 v21) K w) (fun v22 w =>
  PickP v16 v22 (Go.Value.bool false) (fun v23 w =>
  GuardP v23 true (fun K w => LiftP Tryz.prog (Instr.fieldAt 37 v2 2) K w) (fun v25 w =>
  GuardP v23 true (fun K w => LiftP Tryz.prog (Instr.loadAt 23 v25) K w) (fun v26 w =>
  GuardP v23 true (fun K w => LiftP Tryz.prog (Instr.fieldAt 37 v3 2) K w) (fun v27 w =>
  GuardP v23 true (fun K w => LiftP Tryz.prog (Instr.loadAt 23 v27) K w) (fun v28 w =>
  GuardP v23 true (fun K w => CallP Tryz.prog 17 #[v26, v28] K w) (fun v29 w =>
  PickP v23 v29 (Go.Value.bool false) (fun v30 w =>
  GuardP v30 true (fun K w => LiftP Tryz.prog (Instr.fieldAt 37 v2 3) K w) (fun v32 w =>
  GuardP v30 true (fun K w => LiftP Tryz.prog (Instr.loadAt 35 v32) K w) (fun v33 w =>
  GuardP v30 true (fun K w => LiftP Tryz.prog (Instr.fieldAt 37 v3 3) K w) (fun v34 w =>
  GuardP v30 true (fun K w => LiftP Tryz.prog (Instr.loadAt 35 v34) K w) (fun v35 w =>
  GuardP v30 true (fun K w => CallP Tryz.prog 16 #[v33, v35] K w) (fun v36 w =>
  PickP v30 v36 (Go.Value.bool false) (fun v37 w =>
  R v37 w) w) w) w) w) w) w) w) w) w) w) w) w) w) w) w) w) w) w) w) w) w) w) w) w) w) w) w) w) w) w) w
theorem S18.calls (a0 a1 : Value) (R : Value → World → Prop) (w : World) (h : S18 a0 a1 R w) : Calls Tryz.prog 18 #[a0, a1] w fun e w' => ∃ v, e = .returned v ∧ R v w' :=
  calls_of_tr (n := 38) (c := bodyOf Tryz.f18) (.two .leaf (.two .leaf .leaf)) Tryz.func18 (by kernel_rfl) Tryz.ntmps18 (by kernel_rfl) (by kernel_rfl) [a0, a1] (by kernel_rfl) (of_eq_ (by kernel_rfl) h)

/-- shelfmark/shelfmarkref03.Light -/
def S19 (a0 a1 : Value) (R : Value → World → Prop) (w : World) : Prop :=
  LoopP (fun J vs w =>   -- [5, 6]
    NextP Tryz.prog (builtin Go.Builtin.len #[22] 3 #[false] #[a0]) (fun v9 w =>
    LiftP Tryz.prog (binS Go.BinOp.lss 3 (Go.Operand.tmp 7) (Go.Operand.tmp 9) (vs.tail.headD undef) v9) (fun v10 w =>
    CondP v10 (fun w =>
      LiftP Tryz.prog (Instr.indexAt 22 a0 (vs.tail.headD undef)) (fun v15 w =>
    LiftP Tryz.prog (Instr.fieldAt 67 v15 2) (fun v16 w =>
    LiftP Tryz.prog (Instr.loadAt 9 v16) (fun v17 w =>
    NextP Tryz.prog (builtin Go.Builtin.len #[9] 3 #[false] #[v17]) (fun v18 w =>
    LiftP Tryz.prog (binS Go.BinOp.gtr 3 (Go.Operand.tmp 18) (Go.Operand.tmp 19) v18 a1) (fun v20 w =>
    GuardP v20 false (fun K w => K (vs.tail.headD undef) w) (fun v22 w =>
    GuardP v20 false (fun K w => K a1 w) (fun v23 w =>
    GuardP v20 false (fun K w => LiftP Tryz.prog (binS Go.BinOp.gtr 3 (Go.Operand.tmp 22) (Go.Operand.tmp 23) v22 v23) K w) (fun v24 w =>
    PickP v20 (Go.Value.bool true) v24 (fun v25 w =>
    CondP v25 (fun w =>
      R (Go.Value.bool false) w) (fun w =>
      LiftP Tryz.prog (Instr.indexAt 22 a0 (vs.tail.headD undef)) (fun v29 w =>
    LiftP Tryz.prog (Instr.fieldAt 67 v29 2) (fun v30 w =>
    LiftP Tryz.prog (Instr.loadAt 9 v30) (fun v31 w =>
    NextP Tryz.prog (builtin Go.Builtin.len #[9] 3 #[false] #[v31]) (fun v32 w =>
    LiftP Tryz.prog (binS Go.BinOp.add 3 (Go.Operand.tmp 26) (Go.Operand.tmp 32) (vs.headD undef) v32) (fun v33 w =>
    LiftP Tryz.prog (binS Go.BinOp.gtr 3 (Go.Operand.tmp 34) (Go.Operand.tmp 35) v33 a1) (fun v36 w =>
    CondP v36 (fun w =>
      R (Go.Value.bool false) w) (fun w =>
      LiftP Tryz.prog (binS Go.BinOp.add 3 (Go.Operand.tmp 11) (Go.Operand.const (Go.Value.int Go.IntKind.i64 1)) (vs.tail.headD undef) (Go.Value.int Go.IntKind.i64 1)) (fun v12 w =>
    J [v33, v12] w) w) w) w) w) w) w) w) w) w) w) w) w) w) w) w) w) w) w) (fun w =>
      R (Go.Value.bool true) w) w) w) w) [(Go.Value.int Go.IntKind.i64 0), (Go.Value.int Go.IntKind.i64 0)] w
theorem S19.calls (a0 a1 : Value) (R : Value → World → Prop) (w : World) (h : S19 a0 a1 R w) : Calls Tryz.prog 19 #[a0, a1] w fun e w' => ∃ v, e = .returned v ∧ R v w' :=
  calls_of_tr (n := 37) (c := bodyOf Tryz.f19) (.two .leaf (.two .leaf (.two (.two .leaf (.one (.loop [5, 6] (.two (.two .leaf (.two .leaf .leaf)) (.two (.one (.two (.two .leaf (.two (.two .leaf .leaf) .leaf)) (.two .leaf (.two .leaf (.two (.two .leaf .leaf) .leaf))))) .leaf))))) (.two .leaf .leaf)))) Tryz.func19 (by kernel_rfl) Tryz.ntmps19 (by kernel_rfl) (by kernel_rfl) [a0, a1] (by kernel_rfl) (of_eq_ (by kernel_rfl) h)

/-- shelfmark/shelfmarkref04.Key -/
def S40 (a0 : Value) (R : Value → World → Prop) (w : World) : Prop :=
  NextP Tryz.prog (builtin Go.Builtin.len #[9] 3 #[false] #[a0]) (fun v4 w =>
  LiftP Tryz.prog (binS Go.BinOp.geq 3 (Go.Operand.tmp 4) (Go.Operand.const (Go.Value.int Go.IntKind.i64 1)) v4 (Go.Value.int Go.IntKind.i64 1)) (fun v5 w =>
  GuardP v5 true (fun K w => K a0 w) (fun v7 w =>
  GuardP v5 true (fun K w => NextP Tryz.prog (builtin Go.Builtin.len #[9] 3 #[false] #[v7]) K w) (fun v8 w =>
  GuardP v5 true (fun K w => LiftP Tryz.prog (binS Go.BinOp.leq 3 (Go.Operand.tmp 8) (Go.Operand.const (Go.Value.int Go.IntKind.i64 16)) v8 (Go.Value.int Go.IntKind.i64 16)) K w) (fun v9 w =>
  PickP v5 v9 (Go.Value.bool false) (fun v10 w =>
  R v10 w) w) w) w) w) w) w
theorem S40.calls (a0 : Value) (R : Value → World → Prop) (w : World) (h : S40 a0 R w) : Calls Tryz.prog 40 #[a0] w fun e w' => ∃ v, e = .returned v ∧ R v w' :=
  calls_of_tr (n := 11) (c := bodyOf Tryz.f40) (.two .leaf (.two .leaf .leaf)) Tryz.func40 (by kernel_rfl) Tryz.ntmps40 (by kernel_rfl) (by kernel_rfl) [a0] (by kernel_rfl) (of_eq_ (by kernel_rfl) h)

/-- shelfmark/shelfmarkref04.Check -/
def S41 (a0 : Value) (R : Value → World → Prop) (w : World) : Prop :=
  NextP Tryz.prog (builtin Go.Builtin.len #[22] 3 #[false] #[a0]) (fun v4 w =>
  LiftP Tryz.prog (binS Go.BinOp.eql 3 (Go.Operand.tmp 4) (Go.Operand.const (Go.Value.int Go.IntKind.i64 0)) v4 (Go.Value.int Go.IntKind.i64 0)) (fun v5 w =>
  CondP v5 (fun w =>
    R (Go.Value.int Go.IntKind.i64 1) w) (fun w =>
    CallP Tryz.prog 43 #[a0] (fun v7 w =>
  R v7 w) w) w) w) w
theorem S41.calls (a0 : Value) (R : Value → World → Prop) (w : World) (h : S41 a0 R w) : Calls Tryz.prog 41 #[a0] w fun e w' => ∃ v, e = .returned v ∧ R v w' :=
  calls_of_tr (n := 8) (c := bodyOf Tryz.f41) (.two .leaf (.two (.two .leaf (.two (.two .leaf .leaf) .leaf)) (.two .leaf .leaf))) Tryz.func41 (by kernel_rfl) Tryz.ntmps41 (by kernel_rfl) (by kernel_rfl) [a0] (by kernel_rfl) (of_eq_ (by kernel_rfl) h)

/-- shelfmark/shelfmarkref05.limit -/
def S42 (a0 : Value) (R : Value → World → Prop) (w : World) : Prop :=
  LiftP Tryz.prog (binS Go.BinOp.geq 3 (Go.Operand.tmp 3) (Go.Operand.const (Go.Value.int Go.IntKind.i64 1)) a0 (Go.Value.int Go.IntKind.i64 1)) (fun v4 w =>
  GuardP v4 true (fun K w => K a0 w) (fun v6 w =>
  GuardP v4 true (fun K w => LiftP Tryz.prog (binS Go.BinOp.leq 3 (Go.Operand.tmp 6) (Go.Operand.const (Go.Value.int Go.IntKind.i64 64)) v6 (Go.Value.int Go.IntKind.i64 64)) K w) (fun v7 w =>
  PickP v4 v7 (Go.Value.bool false) (fun v8 w =>
  R v8 w) w) w) w) w
theorem S42.calls (a0 : Value) (R : Value → World → Prop) (w : World) (h : S42 a0 R w) : Calls Tryz.prog 42 #[a0] w fun e w' => ∃ v, e = .returned v ∧ R v w' :=
  calls_of_tr (n := 9) (c := bodyOf Tryz.f42) (.two .leaf (.two .leaf .leaf)) Tryz.func42 (by kernel_rfl) Tryz.ntmps42 (by kernel_rfl) (by kernel_rfl) [a0] (by kernel_rfl) (of_eq_ (by kernel_rfl) h)

/-- shelfmark/shelfmarkref03.Row -/
def S43 (a0 : Value) (R : Value → World → Prop) (w : World) : Prop :=
  NextP Tryz.prog (builtin Go.Builtin.len #[22] 3 #[false] #[a0]) (fun v5 w =>
  LiftP Tryz.prog (binS Go.BinOp.gtr 3 (Go.Operand.tmp 5) (Go.Operand.const (Go.Value.int Go.IntKind.i64 4)) v5 (Go.Value.int Go.IntKind.i64 4)) (fun v6 w =>
  CondP v6 (fun w =>
    R (Go.Value.int Go.IntKind.i64 4) w) (fun w =>
    LoopP (fun J vs w =>   -- [3]
    NextP Tryz.prog (builtin Go.Builtin.len #[22] 3 #[false] #[a0]) (fun v9 w =>
    LiftP Tryz.prog (binS Go.BinOp.lss 3 (Go.Operand.tmp 7) (Go.Operand.tmp 9) (vs.headD undef) v9) (fun v10 w =>
    CondP v10 (fun w =>
      LiftP Tryz.prog (Instr.indexAt 22 a0 (vs.headD undef)) (fun v15 w =>
    LiftP Tryz.prog (Instr.loadAt 67 v15) (fun v16 w =>
    CallP Tryz.prog 68 #[v16] (fun v17 w =>
    LiftP Tryz.prog (Op.unary Go.UnOp.not v17) (fun v18 w =>
    CondP v18 (fun w =>
      R (Go.Value.int Go.IntKind.i64 1) w) (fun w =>
      LiftP Tryz.prog (binS Go.BinOp.add 3 (Go.Operand.tmp 11) (Go.Operand.const (Go.Value.int Go.IntKind.i64 1)) (vs.headD undef) (Go.Value.int Go.IntKind.i64 1)) (fun v12 w =>
    J [v12] w) w) w) w) w) w) w) (fun w =>
      R (Go.Value.int Go.IntKind.i64 0) w) w) w) w) [(Go.Value.int Go.IntKind.i64 0)] w) w) w) w
theorem S43.calls (a0 : Value) (R : Value → World → Prop) (w : World) (h : S43 a0 R w) : Calls Tryz.prog 43 #[a0] w fun e w' => ∃ v, e = .returned v ∧ R v w' :=
  calls_of_tr (n := 19) (c := bodyOf Tryz.f43) (.two .leaf (.two (.two .leaf (.two (.two .leaf .leaf) .leaf)) (.two (.two .leaf (.one (.loop [3] (.two (.two .leaf (.two .leaf .leaf)) (.two (.one (.two .leaf (.two (.two .leaf .leaf) .leaf))) .leaf))))) (.two .leaf .leaf)))) Tryz.func43 (by kernel_rfl) Tryz.ntmps43 (by kernel_rfl) (by kernel_rfl) [a0] (by kernel_rfl) (of_eq_ (by kernel_rfl) h)

/-- shelfmark/shelfmarkref04.CheckIndex -/
def S44 (a0 : Value) (R : Value → World → Prop) (w : World) : Prop :=
  LiftP Tryz.prog (Instr.box 53 a0) (fun v1 w =>
  LiftP Tryz.prog (Instr.fieldAt 53 v1 0) (fun v4 w =>
  LiftP Tryz.prog (Instr.loadAt 3 v4) (fun v5 w =>
  LiftP Tryz.prog (binS Go.BinOp.lss 3 (Go.Operand.tmp 5) (Go.Operand.const (Go.Value.int Go.IntKind.i64 1)) v5 (Go.Value.int Go.IntKind.i64 1)) (fun v6 w =>
  GuardP v6 false (fun K w => LiftP Tryz.prog (Instr.fieldAt 53 v1 0) K w) (fun v8 w =>
  GuardP v6 false (fun K w => LiftP Tryz.prog (Instr.loadAt 3 v8) K w) (fun v9 w =>
  GuardP v6 false (fun K w => LiftP Tryz.prog (binS Go.BinOp.gtr 3 (Go.Operand.tmp 9) (Go.Operand.const (Go.Value.int Go.IntKind.i64 6)) v9 (Go.Value.int Go.IntKind.i64 6)) K w) (fun v10 w =>
  PickP v6 (Go.Value.bool true) v10 (fun v11 w =>
  GuardP v11 false (fun K w => LiftP Tryz.prog (Instr.fieldAt 53 v1 1) K w) (fun v13 w =>
  GuardP v11 false (fun K w => LiftP Tryz.prog (Instr.loadAt 24 v13) K w) (fun v14 w =>
  GuardP v11 false (fun K w => NextP Tryz.prog (builtin Go.Builtin.len #[24] 3 #[false] #[v14]) K w) (fun v15 w =>
  GuardP v11 false (fun K w => LiftP Tryz.prog (binS Go.BinOp.eql 3 (Go.Operand.tmp 15) (Go.Operand.const (Go.Value.int Go.IntKind.i64 0)) v15 (Go.Value.int Go.IntKind.i64 0)) K w) (fun v16 w =>
  PickP v11 (Go.Value.bool true) v16 (fun v17 w =>
  CondP v17 (fun w =>
    R (Go.Value.int Go.IntKind.i64 1) w) (fun w =>
    LiftP Tryz.prog (Instr.fieldAt 53 v1 1) (fun v18 w =>
  LiftP Tryz.prog (Instr.loadAt 24 v18) (fun v19 w =>
  NextP Tryz.prog (builtin Go.Builtin.len #[24] 3 #[false] #[v19]) (fun v20 w =>
  LiftP Tryz.prog (binS Go.BinOp.gtr 3 (Go.Operand.tmp 20) (Go.Operand.const (Go.Value.int Go.IntKind.i64 2)) v20 (Go.Value.int Go.IntKind.i64 2)) (fun v21 w =>
  CondP v21 (fun w =>
    R (Go.Value.int Go.IntKind.i64 4) w) (fun w =>
    LoopP (fun J vs w =>   -- [3]
    LiftP Tryz.prog (Instr.fieldAt 53 v1 1) (fun v23 w =>
    LiftP Tryz.prog (Instr.loadAt 24 v23) (fun v24 w =>
    NextP Tryz.prog (builtin Go.Builtin.len #[24] 3 #[false] #[v24]) (fun v25 w =>
    LiftP Tryz.prog (binS Go.BinOp.lss 3 (Go.Operand.tmp 22) (Go.Operand.tmp 25) (vs.headD undef) v25) (fun v26 w =>
    CondP v26 (fun w =>
      DrawP (fun S w =>
    YieldP Tryz.prog S (Instr.fieldAt 53 v1 1) (fun v29 w =>
    YieldP Tryz.prog S (Instr.loadAt 24 v29) (fun v30 w =>
    YieldP Tryz.prog S (Instr.indexAt 24 v30 (vs.headD undef)) (fun v32 w =>
    YieldP Tryz.prog S (Instr.loadAt 3 v32) (fun v33 w =>
    YieldP Tryz.prog S (binS Go.BinOp.lss 3 (Go.Operand.tmp 33) (Go.Operand.const (Go.Value.int Go.IntKind.i64 0)) v33 (Go.Value.int Go.IntKind.i64 0)) (fun v34 w =>
    GuardP v34 false (fun K w => YieldP Tryz.prog S (Instr.fieldAt 53 v1 1) K w) (fun v36 w =>
    GuardP v34 false (fun K w => YieldP Tryz.prog S (Instr.loadAt 24 v36) K w) (fun v37 w =>
    GuardP v34 false (fun K w => K (vs.headD undef) w) (fun v38 w =>
    GuardP v34 false (fun K w => YieldP Tryz.prog S (Instr.indexAt 24 v37 v38) K w) (fun v39 w =>
    GuardP v34 false (fun K w => YieldP Tryz.prog S (Instr.loadAt 3 v39) K w) (fun v40 w =>
    GuardP v34 false (fun K w => YieldP Tryz.prog S (binS Go.BinOp.gtr 3 (Go.Operand.tmp 40) (Go.Operand.const (Go.Value.int Go.IntKind.i64 3)) v40 (Go.Value.int Go.IntKind.i64 3)) K w) (fun v41 w =>
    PickP v34 (Go.Value.bool true) v41 (fun v42 w =>
    GuardP v42 false (fun K w => K (vs.headD undef) w) (fun v44 w =>
    GuardP v42 false (fun K w => YieldP Tryz.prog S (binS Go.BinOp.eql 3 (Go.Operand.tmp 44) (Go.Operand.const (Go.Value.int Go.IntKind.i64 1)) v44 (Go.Value.int Go.IntKind.i64 1)) K w) (fun v45 w =>
    GuardP v42 false (fun K w => K v45 w) (fun v46 w =>
    GuardP v46 true (fun K w => YieldP Tryz.prog S (Instr.fieldAt 53 v1 1) K w) (fun v47 w =>
    GuardP v46 true (fun K w => YieldP Tryz.prog S (Instr.loadAt 24 v47) K w) (fun v48 w =>
    GuardP v46 true (fun K w => YieldP Tryz.prog S (Instr.indexAt 24 v48 (Go.Value.int Go.IntKind.i64 0)) K w) (fun v49 w =>
    GuardP v46 true (fun K w => YieldP Tryz.prog S (Instr.loadAt 3 v49) K w) (fun v50 w =>
    GuardP v46 true (fun K w => YieldP Tryz.prog S (Instr.fieldAt 53 v1 1) K w) (fun v51 w =>
    GuardP v46 true (fun K w => YieldP Tryz.prog S (Instr.loadAt 24 v51) K w) (fun v52 w =>
    GuardP v46 true (fun K w => YieldP Tryz.prog S (Instr.indexAt 24 v52 (Go.Value.int Go.IntKind.i64 1)) K w) (fun v53 w =>
    GuardP v46 true (fun K w => YieldP Tryz.prog S (Instr.loadAt 3 v53) K w) (fun v54 w =>
    GuardP v46 true (fun K w => YieldP Tryz.prog S (binS Go.BinOp.eql 3 (Go.Operand.tmp 50) (Go.Operand.tmp 54) v50 v54) K w) (fun v55 w =>
    GuardP v42 false (fun K w => PickP v46 v55 (Go.Value.bool false) K w) (fun v56 w =>
    PickP v42 (Go.Value.bool true) v56 (fun v57 w =>
    CondP v57 (fun w =>
      R (Go.Value.int Go.IntKind.i64 1) w) (fun w =>
      LiftP Tryz.prog (binS Go.BinOp.add 3 (Go.Operand.tmp 27) (Go.Operand.const (Go.Value.int Go.IntKind.i64 1)) (vs.headD undef) (Go.Value.int Go.IntKind.i64 1)) (fun v28 w =>
    J [v28] w) w) w) w) w) w) w) w) w) w) w) w) w) w) w) w) w) w) w) w) w) w) w) w) w) w) w) w) w) w) (fun w =>
      R (Go.Value.int Go.IntKind.i64 0) w) w) w) w) w) w) [(Go.Value.int Go.IntKind.i64 0)] w) w) w) w) w) w) w) w) w) w) w) w) w) w) w) w) w) w) w) w
theorem S44.calls (a0 : Value) (R : Value → World → Prop) (w : World) (h : S44 a0 R w) : Calls Tryz.prog 44 #[a0] w fun e w' => ∃ v, e = .returned v ∧ R v w' :=
  calls_of_tr (n := 58) (c := bodyOf Tryz.f44) (.two .leaf (.two (.two .leaf (.two (.two .leaf .leaf) .leaf)) (.two (.two .leaf (.two (.two .leaf .leaf) .leaf)) (.two (.two .leaf (.one (.loop [3] (.two (.two .leaf (.two .leaf .leaf)) (.two (.one (.two (.draw [(true, 0), (true, 1), (true, 2), (true, 3), (true, 4), (true, 5), (true, 6), (true, 7), (true, 8), (true, 9), (true, 10), (true, 11), (true, 12), (true, 13), (true, 14), (true, 15), (true, 16), (true, 17), (true, 18), (true, 19), (true, 20), (true, 21), (true, 22), (true, 23), (true, 24), (true, 25), (true, 26), (true, 27), (true, 28)]) (.two (.two .leaf .leaf) .leaf))) .leaf))))) (.two .leaf .leaf))))) Tryz.func44 (by kernel_rfl) Tryz.ntmps44 (by kernel_rfl) (by kernel_rfl) [a0] (by kernel_rfl) (of_eq_ (by kernel_rfl) h)

/-- shelfmark/shelfmarkref03.Good -/
def S68 (a0 : Value) (R : Value → World → Prop) (w : World) : Prop :=
  LiftP Tryz.prog (Instr.box 67 a0) (fun v1 w =>
  LiftP Tryz.prog (Instr.fieldAt 67 v1 0) (fun v3 w =>
  LiftP Tryz.prog (Instr.loadAt 3 v3) (fun v4 w =>
  LiftP Tryz.prog (binS Go.BinOp.eql 3 (Go.Operand.tmp 4) (Go.Operand.const (Go.Value.int Go.IntKind.i64 0)) v4 (Go.Value.int Go.IntKind.i64 0)) (fun v5 w =>
  GuardP v5 true (fun K w => LiftP Tryz.prog (Instr.fieldAt 67 v1 1) K w) (fun v7 w =>
  GuardP v5 true (fun K w => LiftP Tryz.prog (Instr.loadAt 3 v7) K w) (fun v8 w =>
  GuardP v5 true (fun K w => LiftP Tryz.prog (binS Go.BinOp.eql 3 (Go.Operand.tmp 8) (Go.Operand.const (Go.Value.int Go.IntKind.i64 0)) v8 (Go.Value.int Go.IntKind.i64 0)) K w) (fun v9 w =>
  PickP v5 v9 (Go.Value.bool false) (fun v10 w =>
  GuardP v10 true (fun K w => LiftP Tryz.prog (Instr.fieldAt 67 v1 2) K w) (fun v12 w =>
  GuardP v10 true (fun K w => LiftP Tryz.prog (Instr.loadAt 9 v12) K w) (fun v13 w =>
  GuardP v10 true (fun K w => LiftP Tryz.prog (binS Go.BinOp.eql 9 (Go.Operand.tmp 13) (Go.Operand.const (Go.Value.string { data := #[] })) v13 (Go.Value.string { data := #[] })) K w) (fun v14 w =>
  PickP v10 v14 (Go.Value.bool false) (fun v15 w =>
  GuardP v15 false (fun K w => LiftP Tryz.prog (Instr.fieldAt 67 v1 0) K w) (fun v17 w =>
  GuardP v15 false (fun K w => LiftP Tryz.prog (Instr.loadAt 3 v17) K w) (fun v18 w =>
  GuardP v15 false (fun K w => LiftP Tryz.prog (binS Go.BinOp.eql 3 (Go.Operand.tmp 18) (Go.Operand.const (Go.Value.int Go.IntKind.i64 1)) v18 (Go.Value.int Go.IntKind.i64 1)) K w) (fun v19 w =>
  GuardP v15 false (fun K w => K v19 w) (fun v20 w =>
  GuardP v20 true (fun K w => LiftP Tryz.prog (Instr.fieldAt 67 v1 2) K w) (fun v21 w =>
  GuardP v20 true (fun K w => LiftP Tryz.prog (Instr.loadAt 9 v21) K w) (fun v22 w =>
  GuardP v20 true (fun K w => LiftP Tryz.prog (binS Go.BinOp.eql 9 (Go.Operand.tmp 22) (Go.Operand.const (Go.Value.string { data := #[] })) v22 (Go.Value.string { data := #[] })) K w) (fun v23 w =>
  GuardP v15 false (fun K w => PickP v20 v23 (Go.Value.bool false) K w) (fun v24 w =>
  PickP v15 (Go.Value.bool true) v24 (fun v25 w =>
  GuardP v25 false (fun K w => LiftP Tryz.prog (Instr.fieldAt 67 v1 0) K w) (fun v27 w =>
  GuardP v25 false (fun K w => LiftP Tryz.prog (Instr.loadAt 3 v27) K w) (fun v28 w =>
  GuardP v25 false (fun K w => LiftP Tryz.prog (binS Go.BinOp.eql 3 (Go.Operand.tmp 28) (Go.Operand.const (Go.Value.int Go.IntKind.i64 2)) v28 (Go.Value.int Go.IntKind.i64 2)) K w) (fun v29 w =>
  GuardP v25 false (fun K w => K v29 w) (fun v30 w =>
  GuardP v30 true (fun K w => LiftP Tryz.prog (Instr.fieldAt 67 v1 1) K w) (fun v31 w =>
  GuardP v30 true (fun K w => LiftP Tryz.prog (Instr.loadAt 3 v31) K w) (fun v32 w =>
  GuardP v30 true (fun K w => LiftP Tryz.prog (binS Go.BinOp.eql 3 (Go.Operand.tmp 32) (Go.Operand.const (Go.Value.int Go.IntKind.i64 0)) v32 (Go.Value.int Go.IntKind.i64 0)) K w) (fun v33 w =>
  GuardP v25 false (fun K w => PickP v30 v33 (Go.Value.bool false) K w) (fun v34 w =>
  GuardP v25 false (fun K w => K v34 w) (fun v35 w =>
  GuardP v35 true (fun K w => LiftP Tryz.prog (Instr.fieldAt 67 v1 2) K w) (fun v36 w =>
  GuardP v35 true (fun K w => LiftP Tryz.prog (Instr.loadAt 9 v36) K w) (fun v37 w =>
  GuardP v35 true (fun K w => NextP Tryz.prog (builtin Go.Builtin.len #[9] 3 #[false] #[v37]) K w) (fun v38 w =>
  GuardP v35 true (fun K w => LiftP Tryz.prog (binS Go.BinOp.leq 3 (Go.Operand.tmp 38) (Go.Operand.const (Go.Value.int Go.IntKind.i64 32)) v38 (Go.Value.int Go.IntKind.i64 32)) K w) (fun v39 w =>
  GuardP v25 false (fun K w => PickP v35 v39 (Go.Value.bool false) K w) (fun v40 w =>
  PickP v25 (Go.Value.bool true) v40 (fun v41 w =>
  R v41 w) w) w) w) w) w) w) w) w) w) w) w) w) w) w) w) w) w) w) w) w) w) w) w) w) w) w) w) w) w) w) w) w) w) w) w) w
theorem S68.calls (a0 : Value) (R : Value → World → Prop) (w : World) (h : S68 a0 R w) : Calls Tryz.prog 68 #[a0] w fun e w' => ∃ v, e = .returned v ∧ R v w' :=
  calls_of_tr (n := 42) (c := bodyOf Tryz.f68) (.two .leaf (.two .leaf .leaf)) Tryz.func68 (by kernel_rfl) Tryz.ntmps68 (by kernel_rfl) (by kernel_rfl) [a0] (by kernel_rfl) (of_eq_ (by kernel_rfl) h)

end Go.Proofs.YtonblppkidpmlaaGreatDoor.E
