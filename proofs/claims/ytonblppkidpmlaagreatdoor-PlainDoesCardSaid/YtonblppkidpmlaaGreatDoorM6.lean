import Derived.Test.YtonblppkidpmlaaGreatDoorM1
import Derived.Test.YtonblppkidpmlaaGreatDoorProg
import Derived.KernelRfl
namespace Go.Proofs.YtonblppkidpmlaaGreatDoor.E
open Go
set_option maxRecDepth 100000

/-- shelfmark/shelfmarkref05.Light -/
def S10 (a0 : Value) (R : Value → World → Prop) (w : World) : Prop :=
  LiftP Tryz.prog (Instr.box 26 a0) (fun v1 w =>
  LiftP Tryz.prog (Instr.fieldAt 26 v1 1) (fun v3 w =>
  LiftP Tryz.prog (Instr.loadAt 9 v3) (fun v4 w =>
  NextP Tryz.prog (builtin Go.Builtin.len #[9] 3 #[false] #[v4]) (fun v5 w =>
  LiftP Tryz.prog (binS Go.BinOp.leq 3 (Go.Operand.tmp 5) (Go.Operand.const (Go.Value.int Go.IntKind.i64 300)) v5 (Go.Value.int Go.IntKind.i64 300)) (fun v6 w =>
  GuardP v6 true (fun K w => LiftP Tryz.prog (Instr.fieldAt 26 v1 2) K w) (fun v8 w =>
  GuardP v6 true (fun K w => LiftP Tryz.prog (Instr.loadAt 9 v8) K w) (fun v9 w =>
  GuardP v6 true (fun K w => NextP Tryz.prog (builtin Go.Builtin.len #[9] 3 #[false] #[v9]) K w) (fun v10 w =>
  GuardP v6 true (fun K w => LiftP Tryz.prog (binS Go.BinOp.leq 3 (Go.Operand.tmp 10) (Go.Operand.const (Go.Value.int Go.IntKind.i64 300)) v10 (Go.Value.int Go.IntKind.i64 300)) K w) (fun v11 w =>
  PickP v6 v11 (Go.Value.bool false) (fun v12 w =>
  GuardP v12 true (fun K w => LiftP Tryz.prog (Instr.fieldAt 26 v1 6) K w) (fun v14 w =>
  GuardP v12 true (fun K w => LiftP Tryz.prog (Instr.loadAt 24 v14) K w) (fun v15 w =>
  GuardP v12 true (fun K w => NextP Tryz.prog (builtin Go.Builtin.len #[24] 3 #[false] #[v15]) K w) (fun v16 w =>
  GuardP v12 true (fun K w => LiftP Tryz.prog (binS Go.BinOp.leq 3 (Go.Operand.tmp 16) (Go.Operand.const (Go.Value.int Go.IntKind.i64 300)) v16 (Go.Value.int Go.IntKind.i64 300)) K w) (fun v17 w =>
  PickP v12 v17 (Go.Value.bool false) (fun v18 w =>
  GuardP v18 true (fun K w => LiftP Tryz.prog (Instr.fieldAt 26 v1 3) K w) (fun v20 w =>
  GuardP v18 true (fun K w => LiftP Tryz.prog (Instr.loadAt 23 v20) K w) (fun v21 w =>
  GuardP v18 true (fun K w => CallP Tryz.prog 19 #[v21, (Go.Value.int Go.IntKind.i64 300)] K w) (fun v22 w =>
  PickP v18 v22 (Go.Value.bool false) (fun v23 w =>
  GuardP v23 true (fun K w => LiftP Tryz.prog (Instr.fieldAt 26 v1 4) K w) (fun v25 w =>
  GuardP v23 true (fun K w => LiftP Tryz.prog (Instr.loadAt 23 v25) K w) (fun v26 w =>
  GuardP v23 true (fun K w => CallP Tryz.prog 19 #[v26, (Go.Value.int Go.IntKind.i64 300)] K w) (fun v27 w =>
  PickP v23 v27 (Go.Value.bool false) (fun v28 w =>
  GuardP v28 true (fun K w => LiftP Tryz.prog (Instr.fieldAt 26 v1 7) K w) (fun v30 w =>
  GuardP v28 true (fun K w => LiftP Tryz.prog (Instr.loadAt 22 v30) K w) (fun v31 w =>
  GuardP v28 true (fun K w => CallP Tryz.prog 19 #[v31, (Go.Value.int Go.IntKind.i64 300)] K w) (fun v32 w =>
  PickP v28 v32 (Go.Value.bool false) (fun v33 w =>
  GuardP v33 true (fun K w => LiftP Tryz.prog (Instr.fieldAt 26 v1 8) K w) (fun v35 w =>
  GuardP v33 true (fun K w => LiftP Tryz.prog (Instr.loadAt 22 v35) K w) (fun v36 w =>
  GuardP v33 true (fun K w => CallP Tryz.prog 19 #[v36, (Go.Value.int Go.IntKind.i64 300)] K w) (fun v37 w =>
  PickP v33 v37 (Go.Value.bool false) (fun v38 w =>
  R v38 w) w) w) w) w) w) w) w) w) w) w) w) w) w) w) w) w) w) w) w) w) w) w) w) w) w) w) w) w) w) w) w
theorem S10.calls (a0 : Value) (R : Value → World → Prop) (w : World) (h : S10 a0 R w) : Calls Tryz.prog 10 #[a0] w fun e w' => ∃ v, e = .returned v ∧ R v w' :=
  calls_of_tr (n := 39) (c := bodyOf Tryz.f10) (.two .leaf (.two .leaf .leaf)) Tryz.func10 (by kernel_rfl) Tryz.ntmps10 (by kernel_rfl) (by kernel_rfl) [a0] (by kernel_rfl) (of_eq_ (by kernel_rfl) h)

/-- shelfmark/shelfmarkref05.Check -/
def S12 (a0 : Value) (R : Value → World → Prop) (w : World) : Prop :=
  LiftP Tryz.prog (Instr.box 26 a0) (fun v1 w =>
  LiftP Tryz.prog (Instr.fieldAt 26 v1 0) (fun v6 w =>
  LiftP Tryz.prog (Instr.loadAt 3 v6) (fun v7 w =>
  JoinP (fun J w =>
    LiftP Tryz.prog (binS Go.BinOp.eql 3 (Go.Operand.tmp 7) (Go.Operand.const (Go.Value.int Go.IntKind.i64 1)) v7 (Go.Value.int Go.IntKind.i64 1)) (fun v9 w =>
    CondP v9 (fun w =>
      J [v9] w) (fun w =>
      LiftP Tryz.prog (binS Go.BinOp.eql 3 (Go.Operand.tmp 7) (Go.Operand.const (Go.Value.int Go.IntKind.i64 2)) v7 (Go.Value.int Go.IntKind.i64 2)) (fun v10 w =>
      CondP v10 (fun w =>
        J [v10] w) (fun w =>
        LiftP Tryz.prog (binS Go.BinOp.eql 3 (Go.Operand.tmp 7) (Go.Operand.const (Go.Value.int Go.IntKind.i64 3)) v7 (Go.Value.int Go.IntKind.i64 3)) (fun v11 w =>
        CondP v11 (fun w =>
          J [v11] w) (fun w =>
          LiftP Tryz.prog (binS Go.BinOp.eql 3 (Go.Operand.tmp 7) (Go.Operand.const (Go.Value.int Go.IntKind.i64 4)) v7 (Go.Value.int Go.IntKind.i64 4)) (fun v12 w =>
          J [v12] w) w) w) w) w) w) w) w) (fun vs w =>   -- [8]
  CondP (vs.headD undef) (fun w =>
    LiftP Tryz.prog (Instr.fieldAt 26 v1 1) (fun v13 w =>
    LiftP Tryz.prog (Instr.loadAt 9 v13) (fun v14 w =>
    CallP Tryz.prog 40 #[v14] (fun v15 w =>
    LiftP Tryz.prog (Op.unary Go.UnOp.not v15) (fun v16 w =>
    CondP v16 (fun w =>
      R (Go.Value.int Go.IntKind.i64 1) w) (fun w =>
      JoinP (fun J_1 w =>
      LiftP Tryz.prog (Instr.fieldAt 26 v1 0) (fun v17 w =>
      LiftP Tryz.prog (Instr.loadAt 3 v17) (fun v18 w =>
      LiftP Tryz.prog (binS Go.BinOp.eql 3 (Go.Operand.tmp 18) (Go.Operand.const (Go.Value.int Go.IntKind.i64 1)) v18 (Go.Value.int Go.IntKind.i64 1)) (fun v19 w =>
      GuardP v19 false (fun K w => LiftP Tryz.prog (Instr.fieldAt 26 v1 0) K w) (fun v21 w =>
      GuardP v19 false (fun K w => LiftP Tryz.prog (Instr.loadAt 3 v21) K w) (fun v22 w =>
      GuardP v19 false (fun K w => LiftP Tryz.prog (binS Go.BinOp.eql 3 (Go.Operand.tmp 22) (Go.Operand.const (Go.Value.int Go.IntKind.i64 4)) v22 (Go.Value.int Go.IntKind.i64 4)) K w) (fun v23 w =>
      PickP v19 (Go.Value.bool true) v23 (fun v24 w =>
      CondP v24 (fun w =>
        LiftP Tryz.prog (Instr.fieldAt 26 v1 3) (fun v25 w =>
        LiftP Tryz.prog (Instr.loadAt 23 v25) (fun v26 w =>
        CallP Tryz.prog 41 #[v26] (fun v27 w =>
        LiftP Tryz.prog (binS Go.BinOp.neq 29 (Go.Operand.tmp 28) (Go.Operand.const (Go.Value.int Go.IntKind.i64 0)) v27 (Go.Value.int Go.IntKind.i64 0)) (fun v29 w =>
        CondP v29 (fun w =>
          R v27 w) (fun w =>
          J_1 [] w) w) w) w) w) w) (fun w =>
        J_1 [] w) w) w) w) w) w) w) w) w) (fun vs_1 w =>   -- []
    LiftP Tryz.prog (Instr.fieldAt 26 v1 0) (fun v31 w =>
    LiftP Tryz.prog (Instr.loadAt 3 v31) (fun v32 w =>
    LiftP Tryz.prog (binS Go.BinOp.eql 3 (Go.Operand.tmp 32) (Go.Operand.const (Go.Value.int Go.IntKind.i64 4)) v32 (Go.Value.int Go.IntKind.i64 4)) (fun v33 w =>
    GuardP v33 true (fun K w => LiftP Tryz.prog (Instr.fieldAt 26 v1 4) K w) (fun v35 w =>
    GuardP v33 true (fun K w => LiftP Tryz.prog (Instr.loadAt 23 v35) K w) (fun v36 w =>
    GuardP v33 true (fun K w => NextP Tryz.prog (builtin Go.Builtin.len #[23] 3 #[false] #[v36]) K w) (fun v37 w =>
    GuardP v33 true (fun K w => LiftP Tryz.prog (binS Go.BinOp.gtr 3 (Go.Operand.tmp 37) (Go.Operand.const (Go.Value.int Go.IntKind.i64 0)) v37 (Go.Value.int Go.IntKind.i64 0)) K w) (fun v38 w =>
    PickP v33 v38 (Go.Value.bool false) (fun v39 w =>
    CondP v39 (fun w =>
      LiftP Tryz.prog (Instr.fieldAt 26 v1 4) (fun v40 w =>
      LiftP Tryz.prog (Instr.loadAt 23 v40) (fun v41 w =>
      CallP Tryz.prog 41 #[v41] (fun v42 w =>
      R v42 w) w) w) w) (fun w =>
      R (Go.Value.int Go.IntKind.i64 0) w) w) w) w) w) w) w) w) w) w) w) w) w) w) w) w) (fun w =>
    LiftP Tryz.prog (binS Go.BinOp.eql 3 (Go.Operand.tmp 7) (Go.Operand.const (Go.Value.int Go.IntKind.i64 5)) v7 (Go.Value.int Go.IntKind.i64 5)) (fun v44 w =>
    CondP v44 (fun w =>
      LiftP Tryz.prog (Instr.fieldAt 26 v1 1) (fun v45 w =>
      LiftP Tryz.prog (Instr.loadAt 9 v45) (fun v46 w =>
      NextP Tryz.prog (builtin Go.Builtin.len #[9] 3 #[false] #[v46]) (fun v47 w =>
      LiftP Tryz.prog (binS Go.BinOp.gtr 3 (Go.Operand.tmp 47) (Go.Operand.const (Go.Value.int Go.IntKind.i64 16)) v47 (Go.Value.int Go.IntKind.i64 16)) (fun v48 w =>
      GuardP v48 false (fun K w => LiftP Tryz.prog (Instr.fieldAt 26 v1 2) K w) (fun v50 w =>
      GuardP v48 false (fun K w => LiftP Tryz.prog (Instr.loadAt 9 v50) K w) (fun v51 w =>
      GuardP v48 false (fun K w => NextP Tryz.prog (builtin Go.Builtin.len #[9] 3 #[false] #[v51]) K w) (fun v52 w =>
      GuardP v48 false (fun K w => LiftP Tryz.prog (binS Go.BinOp.gtr 3 (Go.Operand.tmp 52) (Go.Operand.const (Go.Value.int Go.IntKind.i64 16)) v52 (Go.Value.int Go.IntKind.i64 16)) K w) (fun v53 w =>
      PickP v48 (Go.Value.bool true) v53 (fun v54 w =>
      GuardP v54 false (fun K w => LiftP Tryz.prog (Instr.fieldAt 26 v1 9) K w) (fun v56 w =>
      GuardP v54 false (fun K w => LiftP Tryz.prog (Instr.loadAt 3 v56) K w) (fun v57 w =>
      GuardP v54 false (fun K w => CallP Tryz.prog 42 #[v57] K w) (fun v58 w =>
      GuardP v54 false (fun K w => LiftP Tryz.prog (Op.unary Go.UnOp.not v58) K w) (fun v59 w =>
      PickP v54 (Go.Value.bool true) v59 (fun v60 w =>
      CondP v60 (fun w =>
        R (Go.Value.int Go.IntKind.i64 1) w) (fun w =>
        R (Go.Value.int Go.IntKind.i64 0) w) w) w) w) w) w) w) w) w) w) w) w) w) w) w) w) (fun w =>
      LiftP Tryz.prog (binS Go.BinOp.eql 3 (Go.Operand.tmp 7) (Go.Operand.const (Go.Value.int Go.IntKind.i64 6)) v7 (Go.Value.int Go.IntKind.i64 6)) (fun v62 w =>
      CondP v62 (fun w =>
        LiftP Tryz.prog (Instr.fieldAt 26 v1 5) (fun v63 w =>
        LiftP Tryz.prog (Instr.loadAt 3 v63) (fun v64 w =>
        LiftP Tryz.prog (binS Go.BinOp.lss 3 (Go.Operand.tmp 64) (Go.Operand.const (Go.Value.int Go.IntKind.i64 1)) v64 (Go.Value.int Go.IntKind.i64 1)) (fun v65 w =>
        GuardP v65 false (fun K w => LiftP Tryz.prog (Instr.fieldAt 26 v1 5) K w) (fun v67 w =>
        GuardP v65 false (fun K w => LiftP Tryz.prog (Instr.loadAt 3 v67) K w) (fun v68 w =>
        GuardP v65 false (fun K w => LiftP Tryz.prog (binS Go.BinOp.gtr 3 (Go.Operand.tmp 68) (Go.Operand.const (Go.Value.int Go.IntKind.i64 6)) v68 (Go.Value.int Go.IntKind.i64 6)) K w) (fun v69 w =>
        PickP v65 (Go.Value.bool true) v69 (fun v70 w =>
        CondP v70 (fun w =>
          R (Go.Value.int Go.IntKind.i64 1) w) (fun w =>
          LiftP Tryz.prog (Instr.fieldAt 26 v1 7) (fun v71 w =>
        LiftP Tryz.prog (Instr.loadAt 22 v71) (fun v72 w =>
        CallP Tryz.prog 43 #[v72] (fun v73 w =>
        LiftP Tryz.prog (binS Go.BinOp.neq 29 (Go.Operand.tmp 74) (Go.Operand.const (Go.Value.int Go.IntKind.i64 0)) v73 (Go.Value.int Go.IntKind.i64 0)) (fun v75 w =>
        CondP v75 (fun w =>
          R v73 w) (fun w =>
          LiftP Tryz.prog (Instr.fieldAt 26 v1 8) (fun v77 w =>
        LiftP Tryz.prog (Instr.loadAt 22 v77) (fun v78 w =>
        CallP Tryz.prog 43 #[v78] (fun v79 w =>
        LiftP Tryz.prog (binS Go.BinOp.neq 29 (Go.Operand.tmp 80) (Go.Operand.const (Go.Value.int Go.IntKind.i64 0)) v79 (Go.Value.int Go.IntKind.i64 0)) (fun v81 w =>
        CondP v81 (fun w =>
          R v79 w) (fun w =>
          LiftP Tryz.prog (Instr.fieldAt 26 v1 9) (fun v83 w =>
        LiftP Tryz.prog (Instr.loadAt 3 v83) (fun v84 w =>
        CallP Tryz.prog 42 #[v84] (fun v85 w =>
        LiftP Tryz.prog (Op.unary Go.UnOp.not v85) (fun v86 w =>
        CondP v86 (fun w =>
          R (Go.Value.int Go.IntKind.i64 1) w) (fun w =>
          R (Go.Value.int Go.IntKind.i64 0) w) w) w) w) w) w) w) w) w) w) w) w) w) w) w) w) w) w) w) w) w) w) w) w) (fun w =>
        LiftP Tryz.prog (binS Go.BinOp.eql 3 (Go.Operand.tmp 7) (Go.Operand.const (Go.Value.int Go.IntKind.i64 7)) v7 (Go.Value.int Go.IntKind.i64 7)) (fun v88 w =>
        CondP v88 (fun w =>
          LiftP Tryz.prog (Instr.fieldAt 26 v1 6) (fun v89 w =>
          LiftP Tryz.prog (Instr.loadAt 24 v89) (fun v90 w =>
          LiftP Tryz.prog (Instr.build 53 #[(0, (Go.Value.int Go.IntKind.i64 1)), (1, v90)]) (fun v91 w =>
          CallP Tryz.prog 44 #[v91] (fun v92 w =>
          R v92 w) w) w) w) w) (fun w =>
          LiftP Tryz.prog (binS Go.BinOp.eql 3 (Go.Operand.tmp 7) (Go.Operand.const (Go.Value.int Go.IntKind.i64 8)) v7 (Go.Value.int Go.IntKind.i64 8)) (fun v94 w =>
          CondP v94 (fun w =>
            LiftP Tryz.prog (Instr.fieldAt 26 v1 5) (fun v95 w =>
            LiftP Tryz.prog (Instr.loadAt 3 v95) (fun v96 w =>
            LiftP Tryz.prog (binS Go.BinOp.lss 3 (Go.Operand.tmp 96) (Go.Operand.const (Go.Value.int Go.IntKind.i64 1)) v96 (Go.Value.int Go.IntKind.i64 1)) (fun v97 w =>
            GuardP v97 false (fun K w => LiftP Tryz.prog (Instr.fieldAt 26 v1 5) K w) (fun v99 w =>
            GuardP v97 false (fun K w => LiftP Tryz.prog (Instr.loadAt 3 v99) K w) (fun v100 w =>
            GuardP v97 false (fun K w => LiftP Tryz.prog (binS Go.BinOp.gtr 3 (Go.Operand.tmp 100) (Go.Operand.const (Go.Value.int Go.IntKind.i64 6)) v100 (Go.Value.int Go.IntKind.i64 6)) K w) (fun v101 w =>
            PickP v97 (Go.Value.bool true) v101 (fun v102 w =>
            CondP v102 (fun w =>
              R (Go.Value.int Go.IntKind.i64 1) w) (fun w =>
              R (Go.Value.int Go.IntKind.i64 0) w) w) w) w) w) w) w) w) w) (fun w =>
            JoinP (fun J_2 w =>
              LiftP Tryz.prog (binS Go.BinOp.eql 3 (Go.Operand.tmp 7) (Go.Operand.const (Go.Value.int Go.IntKind.i64 9)) v7 (Go.Value.int Go.IntKind.i64 9)) (fun v104 w =>
              CondP v104 (fun w =>
                J_2 [v104] w) (fun w =>
                LiftP Tryz.prog (binS Go.BinOp.eql 3 (Go.Operand.tmp 7) (Go.Operand.const (Go.Value.int Go.IntKind.i64 10)) v7 (Go.Value.int Go.IntKind.i64 10)) (fun v105 w =>
                CondP v105 (fun w =>
                  J_2 [v105] w) (fun w =>
                  LiftP Tryz.prog (binS Go.BinOp.eql 3 (Go.Operand.tmp 7) (Go.Operand.const (Go.Value.int Go.IntKind.i64 11)) v7 (Go.Value.int Go.IntKind.i64 11)) (fun v106 w =>
                  J_2 [v106] w) w) w) w) w) w) (fun vs_2 w =>   -- [103]
            CondP (vs_2.headD undef) (fun w =>
              LiftP Tryz.prog (Instr.fieldAt 26 v1 10) (fun v107 w =>
              LiftP Tryz.prog (Instr.loadAt 3 v107) (fun v108 w =>
              LiftP Tryz.prog (binS Go.BinOp.neq 3 (Go.Operand.tmp 108) (Go.Operand.const (Go.Value.int Go.IntKind.i64 0)) v108 (Go.Value.int Go.IntKind.i64 0)) (fun v109 w =>
              GuardP v109 true (fun K w => LiftP Tryz.prog (Instr.fieldAt 26 v1 10) K w) (fun v111 w =>
              GuardP v109 true (fun K w => LiftP Tryz.prog (Instr.loadAt 3 v111) K w) (fun v112 w =>
              GuardP v109 true (fun K w => LiftP Tryz.prog (binS Go.BinOp.neq 3 (Go.Operand.tmp 112) (Go.Operand.const (Go.Value.int Go.IntKind.i64 1)) v112 (Go.Value.int Go.IntKind.i64 1)) K w) (fun v113 w =>
              PickP v109 v113 (Go.Value.bool false) (fun v114 w =>
              GuardP v114 false (fun K w => LiftP Tryz.prog (Instr.fieldAt 26 v1 1) K w) (fun v116 w =>
              GuardP v114 false (fun K w => LiftP Tryz.prog (Instr.loadAt 9 v116) K w) (fun v117 w =>
              GuardP v114 false (fun K w => NextP Tryz.prog (builtin Go.Builtin.len #[9] 3 #[false] #[v117]) K w) (fun v118 w =>
              GuardP v114 false (fun K w => LiftP Tryz.prog (binS Go.BinOp.gtr 3 (Go.Operand.tmp 118) (Go.Operand.const (Go.Value.int Go.IntKind.i64 100)) v118 (Go.Value.int Go.IntKind.i64 100)) K w) (fun v119 w =>
              PickP v114 (Go.Value.bool true) v119 (fun v120 w =>
              GuardP v120 false (fun K w => LiftP Tryz.prog (Instr.fieldAt 26 v1 0) K w) (fun v122 w =>
              GuardP v120 false (fun K w => LiftP Tryz.prog (Instr.loadAt 3 v122) K w) (fun v123 w =>
              GuardP v120 false (fun K w => LiftP Tryz.prog (binS Go.BinOp.neq 3 (Go.Operand.tmp 123) (Go.Operand.const (Go.Value.int Go.IntKind.i64 11)) v123 (Go.Value.int Go.IntKind.i64 11)) K w) (fun v124 w =>
              GuardP v120 false (fun K w => K v124 w) (fun v125 w =>
              GuardP v125 true (fun K w => LiftP Tryz.prog (Instr.fieldAt 26 v1 1) K w) (fun v126 w =>
              GuardP v125 true (fun K w => LiftP Tryz.prog (Instr.loadAt 9 v126) K w) (fun v127 w =>
              GuardP v125 true (fun K w => LiftP Tryz.prog (binS Go.BinOp.eql 9 (Go.Operand.tmp 127) (Go.Operand.const (Go.Value.string { data := #[] })) v127 (Go.Value.string { data := #[] })) K w) (fun v128 w =>
              GuardP v120 false (fun K w => PickP v125 v128 (Go.Value.bool false) K w) (fun v129 w =>
              PickP v120 (Go.Value.bool true) v129 (fun v130 w =>
              GuardP v130 false (fun K w => LiftP Tryz.prog (Instr.fieldAt 26 v1 0) K w) (fun v132 w =>
              GuardP v130 false (fun K w => LiftP Tryz.prog (Instr.loadAt 3 v132) K w) (fun v133 w =>
              GuardP v130 false (fun K w => LiftP Tryz.prog (binS Go.BinOp.eql 3 (Go.Operand.tmp 133) (Go.Operand.const (Go.Value.int Go.IntKind.i64 11)) v133 (Go.Value.int Go.IntKind.i64 11)) K w) (fun v134 w =>
              GuardP v130 false (fun K w => K v134 w) (fun v135 w =>
              GuardP v135 true (fun K w => LiftP Tryz.prog (Instr.fieldAt 26 v1 11) K w) (fun v136 w =>
              GuardP v135 true (fun K w => LiftP Tryz.prog (Instr.loadAt 3 v136) K w) (fun v137 w =>
              GuardP v135 true (fun K w => LiftP Tryz.prog (binS Go.BinOp.lss 3 (Go.Operand.tmp 137) (Go.Operand.const (Go.Value.int Go.IntKind.i64 1)) v137 (Go.Value.int Go.IntKind.i64 1)) K w) (fun v138 w =>
              GuardP v135 true (fun K w => K v138 w) (fun v139 w =>
              GuardP v139 false (fun K w => LiftP Tryz.prog (Instr.fieldAt 26 v1 11) K w) (fun v140 w =>
              GuardP v139 false (fun K w => LiftP Tryz.prog (Instr.loadAt 3 v140) K w) (fun v141 w =>
              GuardP v139 false (fun K w => LiftP Tryz.prog (binS Go.BinOp.gtr 3 (Go.Operand.tmp 141) (Go.Operand.const (Go.Value.int Go.IntKind.i64 4)) v141 (Go.Value.int Go.IntKind.i64 4)) K w) (fun v142 w =>
              GuardP v135 true (fun K w => PickP v139 (Go.Value.bool true) v142 K w) (fun v143 w =>
              GuardP v130 false (fun K w => PickP v135 v143 (Go.Value.bool false) K w) (fun v144 w =>
              PickP v130 (Go.Value.bool true) v144 (fun v145 w =>
              CondP v145 (fun w =>
                R (Go.Value.int Go.IntKind.i64 1) w) (fun w =>
                R (Go.Value.int Go.IntKind.i64 0) w) w) w) w) w) w) w) w) w) w) w) w) w) w) w) w) w) w) w) w) w) w) w) w) w) w) w) w) w) w) w) w) w) w) w) w) w) (fun w =>
              LiftP Tryz.prog (binS Go.BinOp.eql 3 (Go.Operand.tmp 7) (Go.Operand.const (Go.Value.int Go.IntKind.i64 12)) v7 (Go.Value.int Go.IntKind.i64 12)) (fun v147 w =>
              CondP v147 (fun w =>
                R (Go.Value.int Go.IntKind.i64 0) w) (fun w =>
                R (Go.Value.int Go.IntKind.i64 1) w) w) w) w) w) w) w) w) w) w) w) w) w) w) w) w) w) w
theorem S12.calls (a0 : Value) (R : Value → World → Prop) (w : World) (h : S12 a0 R w) : Calls Tryz.prog 12 #[a0] w fun e w' => ∃ v, e = .returned v ∧ R v w' :=
  calls_of_tr (n := 148) (c := bodyOf Tryz.f12) (.two .leaf (.two (.two .leaf (.one (.join [8] (.two .leaf (.two .leaf (.two .leaf (.two .leaf (.two .leaf (.two .leaf .leaf)))))) (.two (.two (.two .leaf (.two (.two .leaf .leaf) .leaf)) (.join [] (.two .leaf (.two (.two .leaf (.two .leaf (.two (.two .leaf .leaf) .leaf))) .leaf)) (.two (.two .leaf (.two (.two .leaf .leaf) .leaf)) (.two .leaf .leaf)))) (.two .leaf (.two (.two (.two .leaf (.two (.two .leaf .leaf) .leaf)) (.two .leaf .leaf)) (.two .leaf (.two (.two (.two .leaf (.two (.two .leaf .leaf) .leaf)) (.two (.two .leaf (.two .leaf (.two (.two .leaf .leaf) .leaf))) (.two (.two .leaf (.two .leaf (.two (.two .leaf .leaf) .leaf))) (.two (.two .leaf (.two (.two .leaf .leaf) .leaf)) (.two .leaf .leaf))))) (.two .leaf (.two (.two .leaf .leaf) (.two .leaf (.two (.two (.two .leaf (.two (.two .leaf .leaf) .leaf)) (.two .leaf .leaf)) (.join [103] (.two .leaf (.two .leaf (.two .leaf (.two .leaf .leaf)))) (.two (.two (.two .leaf (.two (.two .leaf .leaf) .leaf)) (.two .leaf .leaf)) (.two .leaf (.two (.two .leaf .leaf) .leaf)))))))))))))))) (.two .leaf .leaf))) Tryz.func12 (by kernel_rfl) Tryz.ntmps12 (by kernel_rfl) (by kernel_rfl) [a0] (by kernel_rfl) (of_eq_ (by kernel_rfl) h)

/-- shelfmark/shelfmarkref05.AllLight -/
def S13 (a0 a1 : Value) (R : Value → World → Prop) (w : World) : Prop :=
  NextP Tryz.prog (builtin Go.Builtin.len #[31] 3 #[false] #[a0]) (fun v7 w =>
  LiftP Tryz.prog (binS Go.BinOp.gtr 3 (Go.Operand.tmp 7) (Go.Operand.tmp 8) v7 a1) (fun v9 w =>
  CondP v9 (fun w =>
    R (Go.Value.bool false) w) (fun w =>
    LoopP (fun J vs w =>   -- [5]
    NextP Tryz.prog (builtin Go.Builtin.len #[31] 3 #[false] #[a0]) (fun v12 w =>
    LiftP Tryz.prog (binS Go.BinOp.lss 3 (Go.Operand.tmp 10) (Go.Operand.tmp 12) (vs.headD undef) v12) (fun v13 w =>
    CondP v13 (fun w =>
      LiftP Tryz.prog (Instr.indexAt 31 a0 (vs.headD undef)) (fun v18 w =>
    LiftP Tryz.prog (Instr.loadAt 26 v18) (fun v19 w =>
    CallP Tryz.prog 10 #[v19] (fun v20 w =>
    LiftP Tryz.prog (Op.unary Go.UnOp.not v20) (fun v21 w =>
    CondP v21 (fun w =>
      R (Go.Value.bool false) w) (fun w =>
      LiftP Tryz.prog (binS Go.BinOp.add 3 (Go.Operand.tmp 14) (Go.Operand.const (Go.Value.int Go.IntKind.i64 1)) (vs.headD undef) (Go.Value.int Go.IntKind.i64 1)) (fun v15 w =>
    J [v15] w) w) w) w) w) w) w) (fun w =>
      R (Go.Value.bool true) w) w) w) w) [(Go.Value.int Go.IntKind.i64 0)] w) w) w) w
theorem S13.calls (a0 a1 : Value) (R : Value → World → Prop) (w : World) (h : S13 a0 a1 R w) : Calls Tryz.prog 13 #[a0, a1] w fun e w' => ∃ v, e = .returned v ∧ R v w' :=
  calls_of_tr (n := 22) (c := bodyOf Tryz.f13) (.two .leaf (.two (.two .leaf (.two (.two .leaf .leaf) .leaf)) (.two (.two .leaf (.one (.loop [5] (.two (.two .leaf (.two .leaf .leaf)) (.two (.one (.two .leaf (.two (.two .leaf .leaf) .leaf))) .leaf))))) (.two .leaf .leaf)))) Tryz.func13 (by kernel_rfl) Tryz.ntmps13 (by kernel_rfl) (by kernel_rfl) [a0, a1] (by kernel_rfl) (of_eq_ (by kernel_rfl) h)

/-- shelfmark/shelfmarkref05.SameRows -/
def S16 (a0 a1 : Value) (R : Value → World → Prop) (w : World) : Prop :=
  NextP Tryz.prog (builtin Go.Builtin.len #[35] 3 #[false] #[a0]) (fun v7 w =>
  NextP Tryz.prog (builtin Go.Builtin.len #[35] 3 #[false] #[a1]) (fun v9 w =>
  LiftP Tryz.prog (binS Go.BinOp.neq 3 (Go.Operand.tmp 7) (Go.Operand.tmp 9) v7 v9) (fun v10 w =>
  CondP v10 (fun w =>
    R (Go.Value.bool false) w) (fun w =>
    LoopP (fun J vs w =>   -- [5]
    NextP Tryz.prog (builtin Go.Builtin.len #[35] 3 #[false] #[a0]) (fun v13 w =>
    LiftP Tryz.prog (binS Go.BinOp.lss 3 (Go.Operand.tmp 11) (Go.Operand.tmp 13) (vs.headD undef) v13) (fun v14 w =>
    CondP v14 (fun w =>
      DrawP (fun S w =>
    YieldP Tryz.prog S (Instr.indexAt 35 a0 (vs.headD undef)) (fun v19 w =>
    YieldP Tryz.prog S (Instr.fieldAt 40 v19 0) (fun v20 w =>
    YieldP Tryz.prog S (Instr.loadAt 9 v20) (fun v21 w =>
    YieldP Tryz.prog S (Instr.indexAt 35 a1 (vs.headD undef)) (fun v24 w =>
    YieldP Tryz.prog S (Instr.fieldAt 40 v24 0) (fun v25 w =>
    YieldP Tryz.prog S (Instr.loadAt 9 v25) (fun v26 w =>
    YieldP Tryz.prog S (binS Go.BinOp.neq 9 (Go.Operand.tmp 21) (Go.Operand.tmp 26) v21 v26) (fun v27 w =>
    GuardP v27 false (fun K w => K a0 w) (fun v29 w =>
    GuardP v27 false (fun K w => K (vs.headD undef) w) (fun v30 w =>
    GuardP v27 false (fun K w => YieldP Tryz.prog S (Instr.indexAt 35 v29 v30) K w) (fun v31 w =>
    GuardP v27 false (fun K w => YieldP Tryz.prog S (Instr.fieldAt 40 v31 1) K w) (fun v32 w =>
    GuardP v27 false (fun K w => YieldP Tryz.prog S (Instr.loadAt 23 v32) K w) (fun v33 w =>
    GuardP v27 false (fun K w => K a1 w) (fun v34 w =>
    GuardP v27 false (fun K w => K (vs.headD undef) w) (fun v35 w =>
    GuardP v27 false (fun K w => YieldP Tryz.prog S (Instr.indexAt 35 v34 v35) K w) (fun v36 w =>
    GuardP v27 false (fun K w => YieldP Tryz.prog S (Instr.fieldAt 40 v36 1) K w) (fun v37 w =>
    GuardP v27 false (fun K w => YieldP Tryz.prog S (Instr.loadAt 23 v37) K w) (fun v38 w =>
    GuardA v27 false S (fun K w => CallP Tryz.prog 17 #[v33, v38] K w) (fun S v39 w =>
    GuardP v27 false (fun K w => YieldP Tryz.prog S (Op.unary Go.UnOp.not v39) K w) (fun v40 w =>
    PickP v27 (Go.Value.bool true) v40 (fun v41 w =>
    CondP v41 (fun w =>
      R (Go.Value.bool false) w) (fun w =>
      LiftP Tryz.prog (binS Go.BinOp.add 3 (Go.Operand.tmp 15) (Go.Operand.const (Go.Value.int Go.IntKind.i64 1)) (vs.headD undef) (Go.Value.int Go.IntKind.i64 1)) (fun v16 w =>
    J [v16] w) w) w) w) w) w) w) w) w) w) w) w) w) w) w) w) w) w) w) w) w) w) w) w) (fun w =>
      R (Go.Value.bool true) w) w) w) w) [(Go.Value.int Go.IntKind.i64 0)] w) w) w) w) w
theorem S16.calls (a0 a1 : Value) (R : Value → World → Prop) (w : World) (h : S16 a0 a1 R w) : Calls Tryz.prog 16 #[a0, a1] w fun e w' => ∃ v, e = .returned v ∧ R v w' :=
  calls_of_tr (n := 42) (c := bodyOf Tryz.f16) (.two .leaf (.two (.two .leaf (.two (.two .leaf .leaf) .leaf)) (.two (.two .leaf (.one (.loop [5] (.two (.two .leaf (.two .leaf .leaf)) (.two (.one (.two (.draw [(true, 0), (true, 1), (true, 2), (true, 3), (true, 4), (true, 5), (true, 6), (true, 7), (true, 8), (true, 9), (true, 10), (true, 11), (true, 12), (true, 13), (true, 14), (true, 15), (true, 16), (true, 17), (true, 18), (true, 19), (true, 20), (true, 21), (false, 22), (true, 23), (true, 24)]) (.two (.two .leaf .leaf) .leaf))) .leaf))))) (.two .leaf .leaf)))) Tryz.func16 (by kernel_rfl) Tryz.ntmps16 (by kernel_rfl) (by kernel_rfl) [a0, a1] (by kernel_rfl) (of_eq_ (by kernel_rfl) h)

/-- shelfmark/shelfmarkref03.Same -/
def S17 (a0 a1 : Value) (R : Value → World → Prop) (w : World) : Prop :=
  NextP Tryz.prog (builtin Go.Builtin.len #[22] 3 #[false] #[a0]) (fun v7 w =>
  NextP Tryz.prog (builtin Go.Builtin.len #[22] 3 #[false] #[a1]) (fun v9 w =>
  LiftP Tryz.prog (binS Go.BinOp.neq 3 (Go.Operand.tmp 7) (Go.Operand.tmp 9) v7 v9) (fun v10 w =>
  CondP v10 (fun w =>
    R (Go.Value.bool false) w) (fun w =>
    LoopP (fun J vs w =>   -- [5]
    NextP Tryz.prog (builtin Go.Builtin.len #[22] 3 #[false] #[a0]) (fun v13 w =>
    LiftP Tryz.prog (binS Go.BinOp.lss 3 (Go.Operand.tmp 11) (Go.Operand.tmp 13) (vs.headD undef) v13) (fun v14 w =>
    CondP v14 (fun w =>
      DrawP (fun S w =>
    YieldP Tryz.prog S (Instr.indexAt 22 a0 (vs.headD undef)) (fun v19 w =>
    YieldP Tryz.prog S (Instr.loadAt 67 v19) (fun v20 w =>
    YieldP Tryz.prog S (Instr.indexAt 22 a1 (vs.headD undef)) (fun v23 w =>
    YieldP Tryz.prog S (Instr.loadAt 67 v23) (fun v24 w =>
    YieldP Tryz.prog S (binS Go.BinOp.neq 67 (Go.Operand.tmp 20) (Go.Operand.tmp 24) v20 v24) (fun v25 w =>
    CondP v25 (fun w =>
      R (Go.Value.bool false) w) (fun w =>
      LiftP Tryz.prog (binS Go.BinOp.add 3 (Go.Operand.tmp 15) (Go.Operand.const (Go.Value.int Go.IntKind.i64 1)) (vs.headD undef) (Go.Value.int Go.IntKind.i64 1)) (fun v16 w =>
    J [v16] w) w) w) w) w) w) w) w) w) (fun w =>
      R (Go.Value.bool true) w) w) w) w) [(Go.Value.int Go.IntKind.i64 0)] w) w) w) w) w
theorem S17.calls (a0 a1 : Value) (R : Value → World → Prop) (w : World) (h : S17 a0 a1 R w) : Calls Tryz.prog 17 #[a0, a1] w fun e w' => ∃ v, e = .returned v ∧ R v w' :=
  calls_of_tr (n := 26) (c := bodyOf Tryz.f17) (.two .leaf (.two (.two .leaf (.two (.two .leaf .leaf) .leaf)) (.two (.two .leaf (.one (.loop [5] (.two (.two .leaf (.two .leaf .leaf)) (.two (.one (.two (.draw [(true, 0), (true, 1), (true, 2), (true, 3), (true, 4), (true, 5), (true, 6), (true, 7), (true, 8)]) (.two (.two .leaf .leaf) .leaf))) .leaf))))) (.two .leaf .leaf)))) Tryz.func17 (by kernel_rfl) Tryz.ntmps17 (by kernel_rfl) (by kernel_rfl) [a0, a1] (by kernel_rfl) (of_eq_ (by kernel_rfl) h)

/-- shelfmark/shelfmarkref05.SameReply -/
def S18 (a0 a1 : Value) (R : Value → World → Prop) (w : World) : Prop :=
  LiftP Tryz.prog (Instr.box 37 a0) (fun v2 w =>
  LiftP Tryz.prog (Instr.box 37 a1) (fun v3 w =>
  LiftP Tryz.prog (Instr.fieldAt 37 v2 0) (fun v5 w =>
  LiftP Tryz.prog (Instr.loadAt 29 v5) (fun v6 w =>
  LiftP Tryz.prog (Instr.fieldAt 37 v3 0) (fun v7 w =>
  LiftP Tryz.prog (Instr.loadAt 29 v7) (fun v8 w =>
  LiftP Tryz.prog (binS Go.BinOp.eql 29 (Go.Operand.tmp 6) (Go.Operand.tmp 8) v6 v8) (fun v9 w =>
  GuardP v9 true (fun K w => LiftP Tryz.prog (Instr.fieldAt 37 v2 1) K w) (fun v11 w =>
  GuardP v9 true (fun K w => LiftP Tryz.prog (Instr.loadAt 4 v11) K w) (fun v12 w =>
  GuardP v9 true (fun K w => LiftP Tryz.prog (Instr.fieldAt 37 v3 1) K w) (fun v13 w =>
  GuardP v9 true (fun K w => LiftP Tryz.prog (Instr.loadAt 4 v13) K w) (fun v14 w =>
  GuardP v9 true (fun K w => LiftP Tryz.prog (binS Go.BinOp.eql 4 (Go.Operand.tmp 12) (Go.Operand.tmp 14) v12 v14) K w) (fun v15 w =>
  PickP v9 v15 (Go.Value.bool false) (fun v16 w =>
  GuardP v16 true (fun K w => LiftP Tryz.prog (Instr.fieldAt 37 v2 4) K w) (fun v18 w =>
  GuardP v16 true (fun K w => LiftP Tryz.prog (Instr.loadAt 3 v18) K w) (fun v19 w =>
  GuardP v16 true (fun K w => LiftP Tryz.prog (Instr.fieldAt 37 v3 4) K w) (fun v20 w =>
  GuardP v16 true (fun K w => LiftP Tryz.prog (Instr.loadAt 3 v20) K w) (fun v21 w =>
  GuardP v16 true (fun K w => LiftP Tryz.prog (binS Go.BinOp.eql 3 (Go.Operand.tmp 19) (Go.Operand.tmp 21) v19 v21) K w) (fun v22 w =>
  PickP v16 v22 (Go.Value.bool false) (fun v23 w =>
  GuardP v23 true (fun K w => LiftP Tryz.prog (Instr.fieldAt 37 v2 2) K w) (fun v25 w =>
  GuardP v23 true (fun K w => LiftP Tryz.prog (Instr.loadAt 23 v25) K w) (fun v26 w =>
  GuardP v23 true (fun K w => LiftP Tryz.prog (Instr.fieldAt 37 v3 2) K w) (fun v27 w =>
  GuardP v23 true (fun K w => LiftP Tryz.prog (Instr.loadAt 23 v27) K w) (fun v28 w =>
  GuardP v23 true (fun K w => CallP Tryz.prog 17 #[v26, v28] K w) (fun v29 w =>
  PickP v23 v29 (Go.Value.bool false) (fun v30 w =>
  GuardP v30 true (fun K w => LiftP Tryz.prog (Instr.fieldAt 37 v2 3) K w) (fun v32 w =>
  GuardP v30 true (fun K w => LiftP Tryz.prog (Instr.loadAt 35 v32) K w) (fun v33 w =>
  GuardP v30 true (fun K w => LiftP Tryz.prog (Instr.fieldAt 37 v3 3) K w) (fun v34 w =>
  GuardP v30 true (fun K w => LiftP Tryz.prog (Instr.loadAt 35 v34) K w) (fun v35 w =>
  GuardP v30 true (fun K w => CallP Tryz.prog 16 #[v33, v35] K w) (fun v36 w =>
  PickP v30 v36 (Go.Value.bool false) (fun v37 w =>
  R v37 w) w) w) w) w) w) w) w) w) w) w) w) w) w) w) w) w) w) w) w) w) w) w) w) w) w) w) w) w) w) w) w
theorem S18.calls (a0 a1 : Value) (R : Value → World → Prop) (w : World) (h : S18 a0 a1 R w) : Calls Tryz.prog 18 #[a0, a1] w fun e w' => ∃ v, e = .returned v ∧ R v w' :=
  calls_of_tr (n := 38) (c := bodyOf Tryz.f18) (.two .leaf (.two .leaf .leaf)) Tryz.func18 (by kernel_rfl) Tryz.ntmps18 (by kernel_rfl) (by kernel_rfl) [a0, a1] (by kernel_rfl) (of_eq_ (by kernel_rfl) h)

/-- shelfmark/shelfmarkref03.Light -/
def S19 (a0 a1 : Value) (R : Value → World → Prop) (w : World) : Prop :=
  LoopP (fun J vs w =>   -- [5, 6]
    NextP Tryz.prog (builtin Go.Builtin.len #[22] 3 #[false] #[a0]) (fun v9 w =>
    LiftP Tryz.prog (binS Go.BinOp.lss 3 (Go.Operand.tmp 7) (Go.Operand.tmp 9) (vs.tail.headD undef) v9) (fun v10 w =>
    CondP v10 (fun w =>
      LiftP Tryz.prog (Instr.indexAt 22 a0 (vs.tail.headD undef)) (fun v15 w =>
    LiftP Tryz.prog (Instr.fieldAt 67 v15 2) (fun v16 w =>
    LiftP Tryz.prog (Instr.loadAt 9 v16) (fun v17 w =>
    NextP Tryz.prog (builtin Go.Builtin.len #[9] 3 #[false] #[v17]) (fun v18 w =>
    LiftP Tryz.prog (binS Go.BinOp.gtr 3 (Go.Operand.tmp 18) (Go.Operand.tmp 19) v18 a1) (fun v20 w =>
    GuardP v20 false (fun K w => K (vs.tail.headD undef) w) (fun v22 w =>
    GuardP v20 false (fun K w => K a1 w) (fun v23 w =>
    GuardP v20 false (fun K w => LiftP Tryz.prog (binS Go.BinOp.gtr 3 (Go.Operand.tmp 22) (Go.Operand.tmp 23) v22 v23) K w) (fun v24 w =>
    PickP v20 (Go.Value.bool true) v24 (fun v25 w =>
    CondP v25 (fun w =>
      R (Go.Value.bool false) w) (fun w =>
      LiftP Tryz.prog (Instr.indexAt 22 a0 (vs.tail.headD undef)) (fun v29 w =>
    LiftP Tryz.prog (Instr.fieldAt 67 v29 2) (fun v30 w =>
    LiftP Tryz.prog (Instr.loadAt 9 v30) (fun v31 w =>
    NextP Tryz.prog (builtin Go.Builtin.len #[9] 3 #[false] #[v31]) (fun v32 w =>
    LiftP Tryz.prog (binS Go.BinOp.add 3 (Go.Operand.tmp 26) (Go.Operand.tmp 32) (vs.headD undef) v32) (fun v33 w =>
    LiftP Tryz.prog (binS Go.BinOp.gtr 3 (Go.Operand.tmp 34) (Go.Operand.tmp 35) v33 a1) (fun v36 w =>
    CondP v36 (fun w =>
      R (Go.Value.bool false) w) (fun w =>
      LiftP Tryz.prog (binS Go.BinOp.add 3 (Go.Operand.tmp 11) (Go.Operand.const (Go.Value.int Go.IntKind.i64 1)) (vs.tail.headD undef) (Go.Value.int Go.IntKind.i64 1)) (fun v12 w =>
    J [v33, v12] w) w) w) w) w) w) w) w) w) w) w) w) w) w) w) w) w) w) w) (fun w =>
      R (Go.Value.bool true) w) w) w) w) [(Go.Value.int Go.IntKind.i64 0), (Go.Value.int Go.IntKind.i64 0)] w
theorem S19.calls (a0 a1 : Value) (R : Value → World → Prop) (w : World) (h : S19 a0 a1 R w) : Calls Tryz.prog 19 #[a0, a1] w fun e w' => ∃ v, e = .returned v ∧ R v w' :=
  calls_of_tr (n := 37) (c := bodyOf Tryz.f19) (.two .leaf (.two .leaf (.two (.two .leaf (.one (.loop [5, 6] (.two (.two .leaf (.two .leaf .leaf)) (.two (.one (.two (.two .leaf (.two (.two .leaf .leaf) .leaf)) (.two .leaf (.two .leaf (.two (.two .leaf .leaf) .leaf))))) .leaf))))) (.two .leaf .leaf)))) Tryz.func19 (by kernel_rfl) Tryz.ntmps19 (by kernel_rfl) (by kernel_rfl) [a0, a1] (by kernel_rfl) (of_eq_ (by kernel_rfl) h)

/-- shelfmark/shelfmarkref04.Shows -/
def S22 (a0 a1 : Value) (R : Value → World → Prop) (w : World) : Prop :=
  LiftP Tryz.prog (Instr.box 53 a0) (fun v2 w =>
  LiftP Tryz.prog (Instr.loadAt 53 v2) (fun v9 w =>
  CallP Tryz.prog 44 #[v9] (fun v10 w =>
  LiftP Tryz.prog (binS Go.BinOp.neq 29 (Go.Operand.tmp 10) (Go.Operand.const (Go.Value.int Go.IntKind.i64 0)) v10 (Go.Value.int Go.IntKind.i64 0)) (fun v11 w =>
  GuardP v11 false (fun K w => K a1 w) (fun v13 w =>
  GuardP v11 false (fun K w => CallP Tryz.prog 41 #[v13] K w) (fun v14 w =>
  GuardP v11 false (fun K w => LiftP Tryz.prog (binS Go.BinOp.neq 29 (Go.Operand.tmp 14) (Go.Operand.const (Go.Value.int Go.IntKind.i64 0)) v14 (Go.Value.int Go.IntKind.i64 0)) K w) (fun v15 w =>
  PickP v11 (Go.Value.bool true) v15 (fun v16 w =>
  CondP v16 (fun w =>
    R (.tuple #[(Go.Value.slice none 0 0), (Go.Value.bool false)]) w) (fun w =>
    LoopP (fun J vs w =>   -- [6, 7]
    LiftP Tryz.prog (Instr.fieldAt 53 v2 1) (fun v18 w =>
    LiftP Tryz.prog (Instr.loadAt 24 v18) (fun v19 w =>
    NextP Tryz.prog (builtin Go.Builtin.len #[24] 3 #[false] #[v19]) (fun v20 w =>
    LiftP Tryz.prog (binS Go.BinOp.lss 3 (Go.Operand.tmp 17) (Go.Operand.tmp 20) (vs.tail.headD undef) v20) (fun v21 w =>
    CondP v21 (fun w =>
      LiftP Tryz.prog (Instr.fieldAt 53 v2 1) (fun v24 w =>
    LiftP Tryz.prog (Instr.loadAt 24 v24) (fun v25 w =>
    LiftP Tryz.prog (Instr.indexAt 24 v25 (vs.tail.headD undef)) (fun v27 w =>
    LiftP Tryz.prog (Instr.loadAt 3 v27) (fun v28 w =>
    NextP Tryz.prog (builtin Go.Builtin.len #[22] 3 #[false] #[a1]) (fun v31 w =>
    LiftP Tryz.prog (binS Go.BinOp.geq 3 (Go.Operand.tmp 29) (Go.Operand.tmp 31) v28 v31) (fun v32 w =>
    GuardP v32 false (fun K w => K a1 w) (fun v34 w =>
    GuardP v32 false (fun K w => K v28 w) (fun v35 w =>
    GuardP v32 false (fun K w => LiftP Tryz.prog (Instr.indexAt 22 v34 v35) K w) (fun v36 w =>
    GuardP v32 false (fun K w => LiftP Tryz.prog (Instr.fieldAt 67 v36 0) K w) (fun v37 w =>
    GuardP v32 false (fun K w => LiftP Tryz.prog (Instr.loadAt 3 v37) K w) (fun v38 w =>
    GuardP v32 false (fun K w => LiftP Tryz.prog (binS Go.BinOp.eql 3 (Go.Operand.tmp 38) (Go.Operand.const (Go.Value.int Go.IntKind.i64 0)) v38 (Go.Value.int Go.IntKind.i64 0)) K w) (fun v39 w =>
    PickP v32 (Go.Value.bool true) v39 (fun v40 w =>
    CondP v40 (fun w =>
      R (.tuple #[(Go.Value.slice none 0 0), (Go.Value.bool false)]) w) (fun w =>
      LiftP Tryz.prog (Instr.indexAt 22 a1 v28) (fun v44 w =>
    LiftP Tryz.prog (Instr.loadAt 67 v44) (fun v45 w =>
    LiftP Tryz.prog (Instr.buildSlice 22 1 #[(0, v45)]) (fun v46 w =>
    NextP Tryz.prog (builtin Go.Builtin.append #[22, 22] 22 #[false, false] #[(vs.headD undef), v46]) (fun v47 w =>
    LiftP Tryz.prog (binS Go.BinOp.add 3 (Go.Operand.tmp 22) (Go.Operand.const (Go.Value.int Go.IntKind.i64 1)) (vs.tail.headD undef) (Go.Value.int Go.IntKind.i64 1)) (fun v23 w =>
    J [v47, v23] w) w) w) w) w) w) w) w) w) w) w) w) w) w) w) w) w) w) w) w) (fun w =>
      R (.tuple #[(vs.headD undef), (Go.Value.bool true)]) w) w) w) w) w) w) [(Go.Value.slice none 0 0), (Go.Value.int Go.IntKind.i64 0)] w) w) w) w) w) w) w) w) w) w
theorem S22.calls (a0 a1 : Value) (R : Value → World → Prop) (w : World) (h : S22 a0 a1 R w) : Calls Tryz.prog 22 #[a0, a1] w fun e w' => ∃ v, e = .returned v ∧ R v w' :=
  calls_of_tr (n := 49) (c := bodyOf Tryz.f22) (.two .leaf (.two (.two .leaf (.two (.two .leaf .leaf) .leaf)) (.two .leaf (.two (.two .leaf (.one (.loop [6, 7] (.two (.two .leaf (.two .leaf .leaf)) (.two (.one (.two .leaf (.two (.two .leaf (.two (.two .leaf .leaf) .leaf)) .leaf))) .leaf))))) (.two .leaf .leaf))))) Tryz.func22 (by kernel_rfl) Tryz.ntmps22 (by kernel_rfl) (by kernel_rfl) [a0, a1] (by kernel_rfl) (of_eq_ (by kernel_rfl) h)

/-- shelfmark/shelfmarkref04.Lies -/
def S23 (a0 a1 a2 : Value) (R : Value → World → Prop) (w : World) : Prop :=
  CallP Tryz.prog 43 #[a0] (fun v9 w =>
  LiftP Tryz.prog (binS Go.BinOp.neq 29 (Go.Operand.tmp 9) (Go.Operand.const (Go.Value.int Go.IntKind.i64 0)) v9 (Go.Value.int Go.IntKind.i64 0)) (fun v10 w =>
  GuardP v10 false (fun K w => K a1 w) (fun v12 w =>
  GuardP v10 false (fun K w => CallP Tryz.prog 43 #[v12] K w) (fun v13 w =>
  GuardP v10 false (fun K w => LiftP Tryz.prog (binS Go.BinOp.neq 29 (Go.Operand.tmp 13) (Go.Operand.const (Go.Value.int Go.IntKind.i64 0)) v13 (Go.Value.int Go.IntKind.i64 0)) K w) (fun v14 w =>
  PickP v10 (Go.Value.bool true) v14 (fun v15 w =>
  GuardP v15 false (fun K w => K a2 w) (fun v17 w =>
  GuardP v15 false (fun K w => CallP Tryz.prog 43 #[v17] K w) (fun v18 w =>
  GuardP v15 false (fun K w => LiftP Tryz.prog (binS Go.BinOp.neq 29 (Go.Operand.tmp 18) (Go.Operand.const (Go.Value.int Go.IntKind.i64 0)) v18 (Go.Value.int Go.IntKind.i64 0)) K w) (fun v19 w =>
  PickP v15 (Go.Value.bool true) v19 (fun v20 w =>
  CondP v20 (fun w =>
    R (Go.Value.bool false) w) (fun w =>
    JoinP (fun J w =>
    NextP Tryz.prog (builtin Go.Builtin.len #[22] 3 #[false] #[a0]) (fun v23 w =>
    NextP Tryz.prog (builtin Go.Builtin.len #[22] 3 #[false] #[a2]) (fun v25 w =>
    LiftP Tryz.prog (binS Go.BinOp.gtr 3 (Go.Operand.tmp 23) (Go.Operand.tmp 25) v23 v25) (fun v26 w =>
    CondP v26 (fun w =>
      NextP Tryz.prog (builtin Go.Builtin.len #[22] 3 #[false] #[a2]) (fun v29 w =>
      LiftP Tryz.prog (Instr.sliceAt 22 a0 none (some v29) none) (fun v30 w =>
      J [v30] w) w) w) (fun w =>
      J [a0] w) w) w) w) w) (fun vs w =>   -- [7]
  CallP Tryz.prog 51 #[a0, a1] (fun v33 w =>
  LiftP Tryz.prog (binS Go.BinOp.geq 3 (Go.Operand.tmp 33) (Go.Operand.const (Go.Value.int Go.IntKind.i64 0)) v33 (Go.Value.int Go.IntKind.i64 0)) (fun v34 w =>
  GuardP v34 true (fun K w => K (vs.headD undef) w) (fun v36 w =>
  GuardP v34 true (fun K w => K a2 w) (fun v37 w =>
  GuardP v34 true (fun K w => CallP Tryz.prog 51 #[v36, v37] K w) (fun v38 w =>
  GuardP v34 true (fun K w => LiftP Tryz.prog (binS Go.BinOp.leq 3 (Go.Operand.tmp 38) (Go.Operand.const (Go.Value.int Go.IntKind.i64 0)) v38 (Go.Value.int Go.IntKind.i64 0)) K w) (fun v39 w =>
  PickP v34 v39 (Go.Value.bool false) (fun v40 w =>
  R v40 w) w) w) w) w) w) w) w) w) w) w) w) w) w) w) w) w) w) w) w
theorem S23.calls (a0 a1 a2 : Value) (R : Value → World → Prop) (w : World) (h : S23 a0 a1 a2 R w) : Calls Tryz.prog 23 #[a0, a1, a2] w fun e w' => ∃ v, e = .returned v ∧ R v w' :=
  calls_of_tr (n := 41) (c := bodyOf Tryz.f23) (.two .leaf (.two (.two .leaf (.two (.two .leaf .leaf) .leaf)) (.two .leaf (.join [7] (.two .leaf (.two .leaf .leaf)) (.two .leaf .leaf))))) Tryz.func23 (by kernel_rfl) Tryz.ntmps23 (by kernel_rfl) (by kernel_rfl) [a0, a1, a2] (by kernel_rfl) (of_eq_ (by kernel_rfl) h)

/-- shelfmark/shelfmarkref05.New -/
def S24 (R : Value → World → Prop) (w : World) : Prop :=
  LiftP Tryz.prog (Instr.build 63 #[]) (fun v1 w =>
  LiftP Tryz.prog (Instr.box 63 v1) (fun v2 w =>
  R v2 w) w) w
theorem S24.calls (R : Value → World → Prop) (w : World) (h : S24 R w) : Calls Tryz.prog 24 #[] w fun e w' => ∃ v, e = .returned v ∧ R v w' :=
  calls_of_tr (n := 3) (c := bodyOf Tryz.f24) (.two .leaf (.two .leaf .leaf)) Tryz.func24 (by kernel_rfl) Tryz.ntmps24 (by kernel_rfl) (by kernel_rfl) [] (by kernel_rfl) (of_eq_ (by kernel_rfl) h)

/-- (*shelfmark/shelfmarkref05.Store).Do -/
def S25 (a0 a1 : Value) (R : Value → World → Prop) (w : World) : Prop :=
  LiftP Tryz.prog (Instr.box 26 a1) (fun v3 w =>
  LiftP Tryz.prog (Instr.alloc 37 true (.tuple #[])) (fun v4 w =>
  LiftP Tryz.prog (Instr.loadAt 26 v3) (fun v20 w =>
  CallP Tryz.prog 12 #[v20] (fun v21 w =>
  LiftP Tryz.prog (binS Go.BinOp.neq 29 (Go.Operand.tmp 22) (Go.Operand.const (Go.Value.int Go.IntKind.i64 0)) v21 (Go.Value.int Go.IntKind.i64 0)) (fun v23 w =>
  CondP v23 (fun w =>
    LiftP Tryz.prog (Instr.build 37 #[(0, v21)]) (fun v25 w =>
    LiftU Tryz.prog (Instr.storeAt 37 v4 v25) (fun v_ w =>
    RetC Tryz.prog v4 37 (fun x => R x w) w) w) w) (fun w =>
    LiftP Tryz.prog (Instr.fieldAt 26 v3 1) (fun v28 w =>
  LiftP Tryz.prog (Instr.loadAt 9 v28) (fun v29 w =>
  CallP Tryz.prog 52 #[a0, v29] (fun v30 w =>
  LiftP Tryz.prog (Instr.extract v30 0) (fun v31 w =>
  LiftP Tryz.prog (Instr.extract v30 1) (fun v32 w =>
  JoinP (fun J w =>
    CondP v32 (fun w =>
      NextP Tryz.prog (nilChk a0) (fun v35 w =>
      LiftP Tryz.prog (Instr.fieldAt 63 v35 0) (fun v36 w =>
      LiftP Tryz.prog (Instr.loadAt 35 v36) (fun v37 w =>
      LiftP Tryz.prog (Instr.indexAt 35 v37 v31) (fun v39 w =>
      LiftP Tryz.prog (Instr.fieldAt 40 v39 1) (fun v40 w =>
      LiftP Tryz.prog (Instr.loadAt 23 v40) (fun v41 w =>
      J [v41] w) w) w) w) w) w) w) (fun w =>
      J [(Go.Value.slice none 0 0)] w) w) (fun vs w =>   -- [8]
  JoinP (fun J_1 w =>
    LiftP Tryz.prog (Instr.fieldAt 26 v3 0) (fun v42 w =>
    LiftP Tryz.prog (Instr.loadAt 3 v42) (fun v43 w =>
    LiftP Tryz.prog (binS Go.BinOp.eql 3 (Go.Operand.tmp 43) (Go.Operand.const (Go.Value.int Go.IntKind.i64 1)) v43 (Go.Value.int Go.IntKind.i64 1)) (fun v45 w =>
    CondP v45 (fun w =>
      LiftP Tryz.prog (Instr.fieldAt 26 v3 1) (fun v47 w =>
      LiftP Tryz.prog (Instr.loadAt 9 v47) (fun v48 w =>
      LiftP Tryz.prog (Instr.fieldAt 26 v3 3) (fun v49 w =>
      LiftP Tryz.prog (Instr.loadAt 23 v49) (fun v50 w =>
      CallP Tryz.prog 53 #[a0, v48, v50] (fun v51 w =>
      LiftP Tryz.prog (Instr.build 37 #[(1, v32)]) (fun v53 w =>
      LiftU Tryz.prog (Instr.storeAt 37 v4 v53) (fun v__1 w =>
      RetC Tryz.prog v4 37 (fun x_1 => R x_1 w) w) w) w) w) w) w) w) w) (fun w =>
      LiftP Tryz.prog (binS Go.BinOp.eql 3 (Go.Operand.tmp 43) (Go.Operand.const (Go.Value.int Go.IntKind.i64 2)) v43 (Go.Value.int Go.IntKind.i64 2)) (fun v55 w =>
      CondP v55 (fun w =>
        LiftP Tryz.prog (Instr.fieldAt 26 v3 1) (fun v57 w =>
        LiftP Tryz.prog (Instr.loadAt 9 v57) (fun v58 w =>
        CallP Tryz.prog 54 #[a0, v58] (fun v59 w =>
        LiftP Tryz.prog (Instr.build 37 #[(1, v32)]) (fun v61 w =>
        LiftU Tryz.prog (Instr.storeAt 37 v4 v61) (fun v__2 w =>
        RetC Tryz.prog v4 37 (fun x_2 => R x_2 w) w) w) w) w) w) w) (fun w =>
        LiftP Tryz.prog (binS Go.BinOp.eql 3 (Go.Operand.tmp 43) (Go.Operand.const (Go.Value.int Go.IntKind.i64 3)) v43 (Go.Value.int Go.IntKind.i64 3)) (fun v63 w =>
        CondP v63 (fun w =>
          LiftP Tryz.prog (Instr.build 37 #[(1, v32), (2, (vs.headD undef))]) (fun v66 w =>
          LiftU Tryz.prog (Instr.storeAt 37 v4 v66) (fun v__3 w =>
          RetC Tryz.prog v4 37 (fun x_3 => R x_3 w) w) w) w) (fun w =>
          LiftP Tryz.prog (binS Go.BinOp.eql 3 (Go.Operand.tmp 43) (Go.Operand.const (Go.Value.int Go.IntKind.i64 4)) v43 (Go.Value.int Go.IntKind.i64 4)) (fun v68 w =>
          CondP v68 (fun w =>
            LiftP Tryz.prog (Instr.fieldAt 26 v3 4) (fun v70 w =>
            LiftP Tryz.prog (Instr.loadAt 23 v70) (fun v71 w =>
            NextP Tryz.prog (builtin Go.Builtin.len #[23] 3 #[false] #[v71]) (fun v72 w =>
            LiftP Tryz.prog (binS Go.BinOp.gtr 3 (Go.Operand.tmp 72) (Go.Operand.const (Go.Value.int Go.IntKind.i64 0)) v72 (Go.Value.int Go.IntKind.i64 0)) (fun v73 w =>
            LiftP Tryz.prog (binS Go.BinOp.neq 4 (Go.Operand.tmp 69) (Go.Operand.tmp 73) v32 v73) (fun v74 w =>
            GuardP v74 false (fun K w => K v32 w) (fun v76 w =>
            GuardP v74 false (fun K w => K v76 w) (fun v77 w =>
            GuardP v77 true (fun K w => K (vs.headD undef) w) (fun v78 w =>
            GuardP v77 true (fun K w => LiftP Tryz.prog (Instr.fieldAt 26 v3 4) K w) (fun v79 w =>
            GuardP v77 true (fun K w => LiftP Tryz.prog (Instr.loadAt 23 v79) K w) (fun v80 w =>
            GuardP v77 true (fun K w => CallP Tryz.prog 17 #[v78, v80] K w) (fun v81 w =>
            GuardP v77 true (fun K w => LiftP Tryz.prog (Op.unary Go.UnOp.not v81) K w) (fun v82 w =>
            GuardP v74 false (fun K w => PickP v77 v82 (Go.Value.bool false) K w) (fun v83 w =>
            PickP v74 (Go.Value.bool true) v83 (fun v84 w =>
            CondP v84 (fun w =>
              LiftP Tryz.prog (Instr.build 37 #[(0, (Go.Value.int Go.IntKind.i64 9)), (1, v32), (2, (vs.headD undef))]) (fun v87 w =>
              LiftU Tryz.prog (Instr.storeAt 37 v4 v87) (fun v__4 w =>
              RetC Tryz.prog v4 37 (fun x_4 => R x_4 w) w) w) w) (fun w =>
              LiftP Tryz.prog (Instr.fieldAt 26 v3 1) (fun v89 w =>
            LiftP Tryz.prog (Instr.loadAt 9 v89) (fun v90 w =>
            LiftP Tryz.prog (Instr.fieldAt 26 v3 3) (fun v91 w =>
            LiftP Tryz.prog (Instr.loadAt 23 v91) (fun v92 w =>
            CallP Tryz.prog 53 #[a0, v90, v92] (fun v93 w =>
            LiftP Tryz.prog (Instr.build 37 #[(1, v32)]) (fun v95 w =>
            LiftU Tryz.prog (Instr.storeAt 37 v4 v95) (fun v__5 w =>
            RetC Tryz.prog v4 37 (fun x_5 => R x_5 w) w) w) w) w) w) w) w) w) w) w) w) w) w) w) w) w) w) w) w) w) w) w) w) (fun w =>
            LiftP Tryz.prog (binS Go.BinOp.eql 3 (Go.Operand.tmp 43) (Go.Operand.const (Go.Value.int Go.IntKind.i64 5)) v43 (Go.Value.int Go.IntKind.i64 5)) (fun v97 w =>
            CondP v97 (fun w =>
              LoopP (fun J_2 vs_2 w =>   -- [9, 10]
                DrawP (fun S w =>
                YieldN Tryz.prog S (nilChk a0) (fun v101 w =>
                YieldP Tryz.prog S (Instr.fieldAt 63 v101 0) (fun v102 w =>
                YieldP Tryz.prog S (Instr.loadAt 35 v102) (fun v103 w =>
                YieldN Tryz.prog S (builtin Go.Builtin.len #[35] 3 #[false] #[v103]) (fun v104 w =>
                YieldP Tryz.prog S (binS Go.BinOp.lss 3 (Go.Operand.tmp 99) (Go.Operand.tmp 104) (vs_2.tail.headD undef) v104) (fun v105 w =>
                GuardP v105 true (fun K w => K (vs_2.headD undef) w) (fun v107 w =>
                GuardP v105 true (fun K w => YieldN Tryz.prog S (builtin Go.Builtin.len #[35] 3 #[false] #[v107]) K w) (fun v108 w =>
                GuardP v105 true (fun K w => YieldP Tryz.prog S (Instr.fieldAt 26 v3 9) K w) (fun v109 w =>
                GuardP v105 true (fun K w => YieldP Tryz.prog S (Instr.loadAt 3 v109) K w) (fun v110 w =>
                GuardP v105 true (fun K w => YieldP Tryz.prog S (binS Go.BinOp.lss 3 (Go.Operand.tmp 108) (Go.Operand.tmp 110) v108 v110) K w) (fun v111 w =>
                PickP v105 v111 (Go.Value.bool false) (fun v112 w =>
                GuardP v112 true (fun K w => YieldP Tryz.prog S (Instr.fieldAt 26 v3 2) K w) (fun v114 w =>
                GuardP v112 true (fun K w => YieldP Tryz.prog S (Instr.loadAt 9 v114) K w) (fun v115 w =>
                GuardP v112 true (fun K w => YieldP Tryz.prog S (binS Go.BinOp.eql 9 (Go.Operand.tmp 115) (Go.Operand.const (Go.Value.string { data := #[] })) v115 (Go.Value.string { data := #[] })) K w) (fun v116 w =>
                GuardP v112 true (fun K w => K v116 w) (fun v117 w =>
                GuardP v117 false (fun K w => K a0 w) (fun v118 w =>
                GuardP v117 false (fun K w => YieldN Tryz.prog S (nilChk v118) K w) (fun v119 w =>
                GuardP v117 false (fun K w => YieldP Tryz.prog S (Instr.fieldAt 63 v119 0) K w) (fun v120 w =>
                GuardP v117 false (fun K w => YieldP Tryz.prog S (Instr.loadAt 35 v120) K w) (fun v121 w =>
                GuardP v117 false (fun K w => K (vs_2.tail.headD undef) w) (fun v122 w =>
                GuardP v117 false (fun K w => YieldP Tryz.prog S (Instr.indexAt 35 v121 v122) K w) (fun v123 w =>
                GuardP v117 false (fun K w => YieldP Tryz.prog S (Instr.fieldAt 40 v123 0) K w) (fun v124 w =>
                GuardP v117 false (fun K w => YieldP Tryz.prog S (Instr.loadAt 9 v124) K w) (fun v125 w =>
                GuardP v117 false (fun K w => YieldP Tryz.prog S (Instr.fieldAt 26 v3 2) K w) (fun v126 w =>
                GuardP v117 false (fun K w => YieldP Tryz.prog S (Instr.loadAt 9 v126) K w) (fun v127 w =>
                GuardP v117 false (fun K w => YieldP Tryz.prog S (binS Go.BinOp.lss 9 (Go.Operand.tmp 125) (Go.Operand.tmp 127) v125 v127) K w) (fun v128 w =>
                GuardP v112 true (fun K w => PickP v117 (Go.Value.bool true) v128 K w) (fun v129 w =>
                PickP v112 v129 (Go.Value.bool false) (fun v130 w =>
                CondP v130 (fun w =>
                  NextP Tryz.prog (nilChk a0) (fun v135 w =>
                LiftP Tryz.prog (Instr.fieldAt 63 v135 0) (fun v136 w =>
                LiftP Tryz.prog (Instr.loadAt 35 v136) (fun v137 w =>
                LiftP Tryz.prog (Instr.indexAt 35 v137 (vs_2.tail.headD undef)) (fun v139 w =>
                LiftP Tryz.prog (Instr.loadAt 40 v139) (fun v140 w =>
                LiftP Tryz.prog (Instr.buildSlice 35 1 #[(0, v140)]) (fun v141 w =>
                NextP Tryz.prog (builtin Go.Builtin.append #[35, 35] 35 #[false, false] #[(vs_2.headD undef), v141]) (fun v142 w =>
                LiftP Tryz.prog (binS Go.BinOp.add 3 (Go.Operand.tmp 131) (Go.Operand.const (Go.Value.int Go.IntKind.i64 1)) (vs_2.tail.headD undef) (Go.Value.int Go.IntKind.i64 1)) (fun v132 w =>
                J_2 [v142, v132] w) w) w) w) w) w) w) w) w) (fun w =>
                  LiftP Tryz.prog (Instr.build 37 #[(3, (vs_2.headD undef))]) (fun v144 w =>
              LiftU Tryz.prog (Instr.storeAt 37 v4 v144) (fun v__6 w =>
              RetC Tryz.prog v4 37 (fun x_6 => R x_6 w) w) w) w) w) w) w) w) w) w) w) w) w) w) w) w) w) w) w) w) w) w) w) w) w) w) w) w) w) w) w) w) w) w) [(Go.Value.slice none 0 0), v31] w) (fun w =>
              LiftP Tryz.prog (binS Go.BinOp.eql 3 (Go.Operand.tmp 43) (Go.Operand.const (Go.Value.int Go.IntKind.i64 6)) v43 (Go.Value.int Go.IntKind.i64 6)) (fun v146 w =>
              CondP v146 (fun w =>
                LiftP Tryz.prog (Instr.fieldAt 26 v3 5) (fun v149 w =>
                LiftP Tryz.prog (Instr.loadAt 3 v149) (fun v150 w =>
                CallP Tryz.prog 55 #[a0, v150] (fun v151 w =>
                LiftP Tryz.prog (Instr.extract v151 0) (fun v152 w =>
                LiftP Tryz.prog (Instr.extract v151 1) (fun v153 w =>
                LiftP Tryz.prog (Instr.alloc 53 true (.tuple #[])) (fun v11 w =>
                LiftU Tryz.prog (Instr.storeAt 53 v11 v152) (fun v__7 w =>
                LiftP Tryz.prog (Op.unary Go.UnOp.not v153) (fun v155 w =>
                CondP v155 (fun w =>
                  LiftP Tryz.prog (Instr.build 37 #[(0, (Go.Value.int Go.IntKind.i64 7))]) (fun v156 w =>
                  LiftU Tryz.prog (Instr.storeAt 37 v4 v156) (fun v__8 w =>
                  RetC Tryz.prog v4 37 (fun x_7 => R x_7 w) w) w) w) (fun w =>
                  LiftP Tryz.prog (Instr.loadAt 53 v11) (fun v158 w =>
                LiftP Tryz.prog (Instr.fieldAt 26 v3 7) (fun v159 w =>
                LiftP Tryz.prog (Instr.loadAt 22 v159) (fun v160 w =>
                LiftP Tryz.prog (Instr.fieldAt 26 v3 8) (fun v161 w =>
                LiftP Tryz.prog (Instr.loadAt 22 v161) (fun v162 w =>
                CallP Tryz.prog 56 #[a0, v158, v160, v162] (fun v163 w =>
                LoopP (fun J_3 vs_3 w =>   -- [14, 15]
                  NextP Tryz.prog (builtin Go.Builtin.len #[98] 3 #[false] #[v163]) (fun v166 w =>
                  LiftP Tryz.prog (binS Go.BinOp.lss 3 (Go.Operand.tmp 164) (Go.Operand.tmp 166) (vs_3.tail.headD undef) v166) (fun v167 w =>
                  GuardP v167 true (fun K w => K (vs_3.tail.headD undef) w) (fun v169 w =>
                  GuardP v167 true (fun K w => LiftP Tryz.prog (Instr.fieldAt 26 v3 9) K w) (fun v170 w =>
                  GuardP v167 true (fun K w => LiftP Tryz.prog (Instr.loadAt 3 v170) K w) (fun v171 w =>
                  GuardP v167 true (fun K w => LiftP Tryz.prog (binS Go.BinOp.lss 3 (Go.Operand.tmp 169) (Go.Operand.tmp 171) v169 v171) K w) (fun v172 w =>
                  PickP v167 v172 (Go.Value.bool false) (fun v173 w =>
                  CondP v173 (fun w =>
                    LiftP Tryz.prog (Instr.indexAt 98 v163 (vs_3.tail.headD undef)) (fun v179 w =>
                  LiftP Tryz.prog (Instr.fieldAt 101 v179 1) (fun v180 w =>
                  LiftP Tryz.prog (Instr.loadAt 40 v180) (fun v181 w =>
                  LiftP Tryz.prog (Instr.buildSlice 35 1 #[(0, v181)]) (fun v182 w =>
                  NextP Tryz.prog (builtin Go.Builtin.append #[35, 35] 35 #[false, false] #[(vs_3.headD undef), v182]) (fun v183 w =>
                  LiftP Tryz.prog (binS Go.BinOp.add 3 (Go.Operand.tmp 174) (Go.Operand.const (Go.Value.int Go.IntKind.i64 1)) (vs_3.tail.headD undef) (Go.Value.int Go.IntKind.i64 1)) (fun v175 w =>
                  J_3 [v183, v175] w) w) w) w) w) w) w) (fun w =>
                    LiftP Tryz.prog (Instr.build 37 #[(3, (vs_3.headD undef))]) (fun v185 w =>
                LiftU Tryz.prog (Instr.storeAt 37 v4 v185) (fun v__9 w =>
                RetC Tryz.prog v4 37 (fun x_8 => R x_8 w) w) w) w) w) w) w) w) w) w) w) w) [(Go.Value.slice none 0 0), (Go.Value.int Go.IntKind.i64 0)] w) w) w) w) w) w) w) w) w) w) w) w) w) w) w) w) (fun w =>
                LiftP Tryz.prog (binS Go.BinOp.eql 3 (Go.Operand.tmp 43) (Go.Operand.const (Go.Value.int Go.IntKind.i64 7)) v43 (Go.Value.int Go.IntKind.i64 7)) (fun v187 w =>
                CondP v187 (fun w =>
                  NextP Tryz.prog (nilChk a0) (fun v189 w =>
                  LiftP Tryz.prog (Instr.fieldAt 63 v189 1) (fun v190 w =>
                  LiftP Tryz.prog (Instr.loadAt 61 v190) (fun v191 w =>
                  NextP Tryz.prog (builtin Go.Builtin.len #[61] 3 #[false] #[v191]) (fun v192 w =>
                  LiftP Tryz.prog (binS Go.BinOp.geq 3 (Go.Operand.tmp 192) (Go.Operand.const (Go.Value.int Go.IntKind.i64 6)) v192 (Go.Value.int Go.IntKind.i64 6)) (fun v193 w =>
                  CondP v193 (fun w =>
                    LiftP Tryz.prog (Instr.build 37 #[(0, (Go.Value.int Go.IntKind.i64 17))]) (fun v194 w =>
                    LiftU Tryz.prog (Instr.storeAt 37 v4 v194) (fun v__10 w =>
                    RetC Tryz.prog v4 37 (fun x_9 => R x_9 w) w) w) w) (fun w =>
                    DrawP (fun S w =>
                  YieldN Tryz.prog S (nilChk a0) (fun v197 w =>
                  YieldP Tryz.prog S (Instr.fieldAt 63 v197 1) (fun v198 w =>
                  YieldP Tryz.prog S (Instr.loadAt 61 v198) (fun v199 w =>
                  YieldP Tryz.prog S (Instr.fieldAt 26 v3 6) (fun v201 w =>
                  YieldP Tryz.prog S (Instr.loadAt 24 v201) (fun v202 w =>
                  ActP S (fun K w => NextP Tryz.prog (builtin Go.Builtin.append #[24, 24] 24 #[false, false] #[(Go.Value.slice none 0 0), v202]) K w) (fun S v203 w =>
                  ActP S (fun K w => LiftP Tryz.prog (Instr.buildSlice 61 1 #[(0, v203)]) K w) (fun S v204 w =>
                  ActP S (fun K w => NextP Tryz.prog (builtin Go.Builtin.append #[61, 61] 61 #[false, false] #[v199, v204]) K w) (fun S v205 w =>
                  YieldN Tryz.prog S (nilChk a0) (fun v206 w =>
                  YieldP Tryz.prog S (Instr.fieldAt 63 v206 1) (fun v207 w =>
                  LiftU Tryz.prog (Instr.storeAt 61 v207 v205) (fun v__11 w =>
                  NextP Tryz.prog (nilChk a0) (fun v209 w =>
                  LiftP Tryz.prog (Instr.fieldAt 63 v209 1) (fun v210 w =>
                  LiftP Tryz.prog (Instr.loadAt 61 v210) (fun v211 w =>
                  NextP Tryz.prog (builtin Go.Builtin.len #[61] 3 #[false] #[v211]) (fun v212 w =>
                  LiftP Tryz.prog (Instr.build 37 #[(4, v212)]) (fun v213 w =>
                  LiftU Tryz.prog (Instr.storeAt 37 v4 v213) (fun v__12 w =>
                  RetC Tryz.prog v4 37 (fun x_10 => R x_10 w) w) w) w) w) w) w) w) w) w) w) w) w) w) w) w) w) w) w) w) w) w) w) w) w) w) (fun w =>
                  LiftP Tryz.prog (binS Go.BinOp.eql 3 (Go.Operand.tmp 43) (Go.Operand.const (Go.Value.int Go.IntKind.i64 8)) v43 (Go.Value.int Go.IntKind.i64 8)) (fun v215 w =>
                  CondP v215 (fun w =>
                    LiftP Tryz.prog (Instr.fieldAt 26 v3 5) (fun v218 w =>
                    LiftP Tryz.prog (Instr.loadAt 3 v218) (fun v219 w =>
                    CallP Tryz.prog 55 #[a0, v219] (fun v220 w =>
                    LiftP Tryz.prog (Instr.extract v220 0) (fun v221 w =>
                    LiftP Tryz.prog (Instr.extract v220 1) (fun v222 w =>
                    LiftP Tryz.prog (Instr.alloc 53 true (.tuple #[])) (fun v17 w =>
                    LiftU Tryz.prog (Instr.storeAt 53 v17 v221) (fun v__13 w =>
                    LiftP Tryz.prog (Op.unary Go.UnOp.not v222) (fun v224 w =>
                    CondP v224 (fun w =>
                      LiftP Tryz.prog (Instr.build 37 #[(0, (Go.Value.int Go.IntKind.i64 7))]) (fun v225 w =>
                      LiftU Tryz.prog (Instr.storeAt 37 v4 v225) (fun v__14 w =>
                      RetC Tryz.prog v4 37 (fun x_11 => R x_11 w) w) w) w) (fun w =>
                      NextP Tryz.prog (nilChk a0) (fun v228 w =>
                    LiftP Tryz.prog (Instr.fieldAt 63 v228 1) (fun v229 w =>
                    LiftP Tryz.prog (Instr.loadAt 61 v229) (fun v230 w =>
                    NextP Tryz.prog (builtin Go.Builtin.append #[61, 61] 61 #[false, false] #[(Go.Value.slice none 0 0), v230]) (fun v231 w =>
                    LiftP Tryz.prog (Instr.fieldAt 26 v3 5) (fun v233 w =>
                    LiftP Tryz.prog (Instr.loadAt 3 v233) (fun v234 w =>
                    LiftP Tryz.prog (binS Go.BinOp.sub 3 (Go.Operand.tmp 234) (Go.Operand.const (Go.Value.int Go.IntKind.i64 1)) v234 (Go.Value.int Go.IntKind.i64 1)) (fun v235 w =>
                    LiftP Tryz.prog (Instr.indexAt 61 v231 v235) (fun v236 w =>
                    LiftU Tryz.prog (Instr.storeAt 24 v236 (Go.Value.slice none 0 0)) (fun v__15 w =>
                    NextP Tryz.prog (nilChk a0) (fun v239 w =>
                    LiftP Tryz.prog (Instr.fieldAt 63 v239 1) (fun v240 w =>
                    LiftU Tryz.prog (Instr.storeAt 61 v240 v231) (fun v__16 w =>
                    J_1 [] w) w) w) w) w) w) w) w) w) w) w) w) w) w) w) w) w) w) w) w) w) w) (fun w =>
                    J_1 [] w) w) w) w) w) w) w) w) w) w) w) w) w) w) w) w) w) w) w) (fun vs_1 w =>   -- []
  LiftP Tryz.prog (Instr.build 37 #[]) (fun v241 w =>
  LiftU Tryz.prog (Instr.storeAt 37 v4 v241) (fun v__17 w =>
  RetC Tryz.prog v4 37 (fun x_12 => R x_12 w) w) w) w) w) w) w) w) w) w) w) w) w) w) w) w) w
theorem S25.calls (a0 a1 : Value) (R : Value → World → Prop) (w : World) (h : S25 a0 a1 R w) : Calls Tryz.prog 25 #[a0, a1] w fun e w' => ∃ v, e = .returned v ∧ R v w' :=
  calls_of_tr (n := 242) (c := bodyOf Tryz.f25) (.two .leaf (.two (.two .leaf (.two .leaf (.two (.two .leaf .leaf) .leaf))) (.two .leaf (.two .leaf (.join [8] (.two .leaf (.two .leaf .leaf)) (.join [] (.two .leaf (.one (.two .leaf (.two (.two .leaf (.two .leaf .leaf)) (.two .leaf (.two (.two .leaf (.two .leaf .leaf)) (.two .leaf (.two (.two .leaf .leaf) (.two .leaf (.two (.two (.two .leaf (.two (.two .leaf .leaf) .leaf)) (.two .leaf (.two .leaf .leaf))) (.two .leaf (.two (.two .leaf (.two (.two .leaf (.one (.loop [9, 10] (.two (.two (.draw [(true, 0), (true, 1), (true, 2), (true, 3), (true, 4), (true, 5), (true, 6), (true, 7), (true, 8), (true, 9), (true, 10), (true, 11), (true, 12), (true, 13), (true, 14), (true, 15), (true, 16), (true, 17), (true, 18), (true, 19), (true, 20), (true, 21), (true, 22), (true, 23), (true, 24), (true, 25), (true, 26), (true, 27), (true, 28), (true, 29), (true, 30), (true, 31)]) (.two .leaf .leaf)) (.two (.one .leaf) .leaf))))) (.two .leaf .leaf))) (.two .leaf (.two (.two .leaf (.two (.two .leaf (.two (.two .leaf .leaf) .leaf)) (.two .leaf (.two .leaf (.two (.two .leaf (.one (.loop [14, 15] (.two (.two .leaf (.two .leaf .leaf)) (.two (.one .leaf) .leaf))))) (.two .leaf .leaf)))))) (.two .leaf (.two (.two (.two .leaf (.two (.two .leaf .leaf) .leaf)) (.two .leaf (.two (.drawL [(true, 0), (true, 1), (true, 2), (true, 3), (true, 4), (true, 5), (true, 6), (true, 7), (false, 8), (false, 9), (false, 10), (true, 11), (true, 12)] 13) (.two .leaf .leaf)))) (.two .leaf (.two (.two (.two .leaf (.two .leaf (.two (.two .leaf .leaf) .leaf))) (.two .leaf (.two .leaf (.two .leaf .leaf)))) .leaf)))))))))))))))))) (.two .leaf .leaf))))))) Tryz.func25 (by kernel_rfl) Tryz.ntmps25 (by kernel_rfl) (by kernel_rfl) [a0, a1] (by kernel_rfl) (of_eq_ (by kernel_rfl) h)

/-- shelfmark/shelfmarkref05.SameTexts -/
def S26 (a0 a1 : Value) (R : Value → World → Prop) (w : World) : Prop :=
  NextP Tryz.prog (builtin Go.Builtin.len #[59] 3 #[false] #[a0]) (fun v7 w =>
  NextP Tryz.prog (builtin Go.Builtin.len #[59] 3 #[false] #[a1]) (fun v9 w =>
  LiftP Tryz.prog (binS Go.BinOp.neq 3 (Go.Operand.tmp 7) (Go.Operand.tmp 9) v7 v9) (fun v10 w =>
  CondP v10 (fun w =>
    R (Go.Value.bool false) w) (fun w =>
    LoopP (fun J vs w =>   -- [5]
    NextP Tryz.prog (builtin Go.Builtin.len #[59] 3 #[false] #[a0]) (fun v13 w =>
    LiftP Tryz.prog (binS Go.BinOp.lss 3 (Go.Operand.tmp 11) (Go.Operand.tmp 13) (vs.headD undef) v13) (fun v14 w =>
    CondP v14 (fun w =>
      DrawP (fun S w =>
    YieldP Tryz.prog S (Instr.indexAt 59 a0 (vs.headD undef)) (fun v19 w =>
    YieldP Tryz.prog S (Instr.loadAt 9 v19) (fun v20 w =>
    YieldP Tryz.prog S (Instr.indexAt 59 a1 (vs.headD undef)) (fun v23 w =>
    YieldP Tryz.prog S (Instr.loadAt 9 v23) (fun v24 w =>
    YieldP Tryz.prog S (binS Go.BinOp.neq 9 (Go.Operand.tmp 20) (Go.Operand.tmp 24) v20 v24) (fun v25 w =>
    CondP v25 (fun w =>
      R (Go.Value.bool false) w) (fun w =>
      LiftP Tryz.prog (binS Go.BinOp.add 3 (Go.Operand.tmp 15) (Go.Operand.const (Go.Value.int Go.IntKind.i64 1)) (vs.headD undef) (Go.Value.int Go.IntKind.i64 1)) (fun v16 w =>
    J [v16] w) w) w) w) w) w) w) w) w) (fun w =>
      R (Go.Value.bool true) w) w) w) w) [(Go.Value.int Go.IntKind.i64 0)] w) w) w) w) w
theorem S26.calls (a0 a1 : Value) (R : Value → World → Prop) (w : World) (h : S26 a0 a1 R w) : Calls Tryz.prog 26 #[a0, a1] w fun e w' => ∃ v, e = .returned v ∧ R v w' :=
  calls_of_tr (n := 26) (c := bodyOf Tryz.f26) (.two .leaf (.two (.two .leaf (.two (.two .leaf .leaf) .leaf)) (.two (.two .leaf (.one (.loop [5] (.two (.two .leaf (.two .leaf .leaf)) (.two (.one (.two (.draw [(true, 0), (true, 1), (true, 2), (true, 3), (true, 4), (true, 5), (true, 6), (true, 7), (true, 8)]) (.two (.two .leaf .leaf) .leaf))) .leaf))))) (.two .leaf .leaf)))) Tryz.func26 (by kernel_rfl) Tryz.ntmps26 (by kernel_rfl) (by kernel_rfl) [a0, a1] (by kernel_rfl) (of_eq_ (by kernel_rfl) h)

/-- (*shelfmark/shelfmarkref05.Store).Shown -/
def S28 (a0 a1 : Value) (R : Value → World → Prop) (w : World) : Prop :=
  CallP Tryz.prog 55 #[a0, a1] (fun v13 w =>
  LiftP Tryz.prog (Instr.extract v13 0) (fun v14 w =>
  LiftP Tryz.prog (Instr.extract v13 1) (fun v15 w =>
  LiftP Tryz.prog (Instr.alloc 53 true (.tuple #[])) (fun v6 w =>
  LiftU Tryz.prog (Instr.storeAt 53 v6 v14) (fun v_ w =>
  LiftP Tryz.prog (Op.unary Go.UnOp.not v15) (fun v17 w =>
  CondP v17 (fun w =>
    R (Go.Value.slice none 0 0) w) (fun w =>
    LiftP Tryz.prog (Instr.loadAt 53 v6) (fun v19 w =>
  CallP Tryz.prog 56 #[a0, v19, (Go.Value.slice none 0 0), (Go.Value.slice none 0 0)] (fun v20 w =>
  LoopP (fun J vs w =>   -- [5, 9]
    NextP Tryz.prog (builtin Go.Builtin.len #[98] 3 #[false] #[v20]) (fun v23 w =>
    LiftP Tryz.prog (binS Go.BinOp.lss 3 (Go.Operand.tmp 21) (Go.Operand.tmp 23) (vs.tail.headD undef) v23) (fun v24 w =>
    CondP v24 (fun w =>
      LiftP Tryz.prog (Instr.indexAt 98 v20 (vs.tail.headD undef)) (fun v30 w =>
    LiftP Tryz.prog (Instr.fieldAt 101 v30 0) (fun v31 w =>
    LiftP Tryz.prog (Instr.loadAt 9 v31) (fun v32 w =>
    LiftP Tryz.prog (Instr.buildSlice 59 1 #[(0, v32)]) (fun v33 w =>
    NextP Tryz.prog (builtin Go.Builtin.append #[59, 59] 59 #[false, false] #[(vs.headD undef), v33]) (fun v34 w =>
    LiftP Tryz.prog (binS Go.BinOp.add 3 (Go.Operand.tmp 25) (Go.Operand.const (Go.Value.int Go.IntKind.i64 1)) (vs.tail.headD undef) (Go.Value.int Go.IntKind.i64 1)) (fun v26 w =>
    J [v34, v26] w) w) w) w) w) w) w) (fun w =>
      R (vs.headD undef) w) w) w) w) [(Go.Value.slice none 0 0), (Go.Value.int Go.IntKind.i64 0)] w) w) w) w) w) w) w) w) w) w
theorem S28.calls (a0 a1 : Value) (R : Value → World → Prop) (w : World) (h : S28 a0 a1 R w) : Calls Tryz.prog 28 #[a0, a1] w fun e w' => ∃ v, e = .returned v ∧ R v w' :=
  calls_of_tr (n := 36) (c := bodyOf Tryz.f28) (.two .leaf (.two .leaf (.two .leaf (.two (.two .leaf (.two (.two .leaf .leaf) .leaf)) (.two .leaf (.two (.two .leaf (.one (.loop [5, 9] (.two (.two .leaf (.two .leaf .leaf)) (.two (.one .leaf) .leaf))))) (.two .leaf .leaf))))))) Tryz.func28 (by kernel_rfl) Tryz.ntmps28 (by kernel_rfl) (by kernel_rfl) [a0, a1] (by kernel_rfl) (of_eq_ (by kernel_rfl) h)

/-- shelfmark/shelfmarkref05.SameIndexes -/
def S29 (a0 a1 : Value) (R : Value → World → Prop) (w : World) : Prop :=
  NextP Tryz.prog (builtin Go.Builtin.len #[48] 3 #[false] #[a0]) (fun v8 w =>
  NextP Tryz.prog (builtin Go.Builtin.len #[48] 3 #[false] #[a1]) (fun v10 w =>
  LiftP Tryz.prog (binS Go.BinOp.neq 3 (Go.Operand.tmp 8) (Go.Operand.tmp 10) v8 v10) (fun v11 w =>
  CondP v11 (fun w =>
    R (Go.Value.bool false) w) (fun w =>
    LoopP (fun J vs w =>   -- [5]
    NextP Tryz.prog (builtin Go.Builtin.len #[48] 3 #[false] #[a0]) (fun v14 w =>
    LiftP Tryz.prog (binS Go.BinOp.lss 3 (Go.Operand.tmp 12) (Go.Operand.tmp 14) (vs.headD undef) v14) (fun v15 w =>
    CondP v15 (fun w =>
      DrawP (fun S w =>
    YieldP Tryz.prog S (Instr.indexAt 48 a0 (vs.headD undef)) (fun v20 w =>
    YieldP Tryz.prog S (Instr.fieldAt 53 v20 0) (fun v21 w =>
    YieldP Tryz.prog S (Instr.loadAt 3 v21) (fun v22 w =>
    YieldP Tryz.prog S (Instr.indexAt 48 a1 (vs.headD undef)) (fun v25 w =>
    YieldP Tryz.prog S (Instr.fieldAt 53 v25 0) (fun v26 w =>
    YieldP Tryz.prog S (Instr.loadAt 3 v26) (fun v27 w =>
    YieldP Tryz.prog S (binS Go.BinOp.neq 3 (Go.Operand.tmp 22) (Go.Operand.tmp 27) v22 v27) (fun v28 w =>
    GuardP v28 false (fun K w => K a0 w) (fun v30 w =>
    GuardP v28 false (fun K w => K (vs.headD undef) w) (fun v31 w =>
    GuardP v28 false (fun K w => YieldP Tryz.prog S (Instr.indexAt 48 v30 v31) K w) (fun v32 w =>
    GuardP v28 false (fun K w => YieldP Tryz.prog S (Instr.fieldAt 53 v32 1) K w) (fun v33 w =>
    GuardP v28 false (fun K w => YieldP Tryz.prog S (Instr.loadAt 24 v33) K w) (fun v34 w =>
    GuardP v28 false (fun K w => YieldN Tryz.prog S (builtin Go.Builtin.len #[24] 3 #[false] #[v34]) K w) (fun v35 w =>
    GuardP v28 false (fun K w => K a1 w) (fun v36 w =>
    GuardP v28 false (fun K w => K (vs.headD undef) w) (fun v37 w =>
    GuardP v28 false (fun K w => YieldP Tryz.prog S (Instr.indexAt 48 v36 v37) K w) (fun v38 w =>
    GuardP v28 false (fun K w => YieldP Tryz.prog S (Instr.fieldAt 53 v38 1) K w) (fun v39 w =>
    GuardP v28 false (fun K w => YieldP Tryz.prog S (Instr.loadAt 24 v39) K w) (fun v40 w =>
    GuardP v28 false (fun K w => YieldN Tryz.prog S (builtin Go.Builtin.len #[24] 3 #[false] #[v40]) K w) (fun v41 w =>
    GuardP v28 false (fun K w => YieldP Tryz.prog S (binS Go.BinOp.neq 3 (Go.Operand.tmp 35) (Go.Operand.tmp 41) v35 v41) K w) (fun v42 w =>
    PickP v28 (Go.Value.bool true) v42 (fun v43 w =>
    CondP v43 (fun w =>
      R (Go.Value.bool false) w) (fun w =>
      LoopP (fun J_1 vs_1 w =>   -- [6]
      LiftP Tryz.prog (Instr.indexAt 48 a0 (vs.headD undef)) (fun v47 w =>
      LiftP Tryz.prog (Instr.fieldAt 53 v47 1) (fun v48 w =>
      LiftP Tryz.prog (Instr.loadAt 24 v48) (fun v49 w =>
      NextP Tryz.prog (builtin Go.Builtin.len #[24] 3 #[false] #[v49]) (fun v50 w =>
      LiftP Tryz.prog (binS Go.BinOp.lss 3 (Go.Operand.tmp 44) (Go.Operand.tmp 50) (vs_1.headD undef) v50) (fun v51 w =>
      CondP v51 (fun w =>
        DrawP (fun S w =>
      YieldP Tryz.prog S (Instr.indexAt 48 a0 (vs.headD undef)) (fun v56 w =>
      YieldP Tryz.prog S (Instr.fieldAt 53 v56 1) (fun v57 w =>
      YieldP Tryz.prog S (Instr.loadAt 24 v57) (fun v58 w =>
      YieldP Tryz.prog S (Instr.indexAt 24 v58 (vs_1.headD undef)) (fun v60 w =>
      YieldP Tryz.prog S (Instr.loadAt 3 v60) (fun v61 w =>
      YieldP Tryz.prog S (Instr.indexAt 48 a1 (vs.headD undef)) (fun v64 w =>
      YieldP Tryz.prog S (Instr.fieldAt 53 v64 1) (fun v65 w =>
      YieldP Tryz.prog S (Instr.loadAt 24 v65) (fun v66 w =>
      YieldP Tryz.prog S (Instr.indexAt 24 v66 (vs_1.headD undef)) (fun v68 w =>
      YieldP Tryz.prog S (Instr.loadAt 3 v68) (fun v69 w =>
      YieldP Tryz.prog S (binS Go.BinOp.neq 3 (Go.Operand.tmp 61) (Go.Operand.tmp 69) v61 v69) (fun v70 w =>
      CondP v70 (fun w =>
        R (Go.Value.bool false) w) (fun w =>
        LiftP Tryz.prog (binS Go.BinOp.add 3 (Go.Operand.tmp 52) (Go.Operand.const (Go.Value.int Go.IntKind.i64 1)) (vs_1.headD undef) (Go.Value.int Go.IntKind.i64 1)) (fun v53 w =>
      J_1 [v53] w) w) w) w) w) w) w) w) w) w) w) w) w) w) w) (fun w =>
        LiftP Tryz.prog (binS Go.BinOp.add 3 (Go.Operand.tmp 16) (Go.Operand.const (Go.Value.int Go.IntKind.i64 1)) (vs.headD undef) (Go.Value.int Go.IntKind.i64 1)) (fun v17 w =>
    J [v17] w) w) w) w) w) w) w) w) [(Go.Value.int Go.IntKind.i64 0)] w) w) w) w) w) w) w) w) w) w) w) w) w) w) w) w) w) w) w) w) w) w) w) w) (fun w =>
      R (Go.Value.bool true) w) w) w) w) [(Go.Value.int Go.IntKind.i64 0)] w) w) w) w) w
theorem S29.calls (a0 a1 : Value) (R : Value → World → Prop) (w : World) (h : S29 a0 a1 R w) : Calls Tryz.prog 29 #[a0, a1] w fun e w' => ∃ v, e = .returned v ∧ R v w' :=
  calls_of_tr (n := 71) (c := bodyOf Tryz.f29) (.two .leaf (.two (.two .leaf (.two (.two .leaf .leaf) .leaf)) (.two (.two .leaf (.one (.loop [5] (.two (.two .leaf (.two .leaf .leaf)) (.two (.one (.two (.two (.draw [(true, 0), (true, 1), (true, 2), (true, 3), (true, 4), (true, 5), (true, 6), (true, 7), (true, 8), (true, 9), (true, 10), (true, 11), (true, 12), (true, 13), (true, 14), (true, 15), (true, 16), (true, 17), (true, 18), (true, 19), (true, 20), (true, 21), (true, 22), (true, 23), (true, 24), (true, 25)]) (.two (.two .leaf .leaf) .leaf)) (.two .leaf (.one (.loop [6] (.two (.two .leaf (.two .leaf .leaf)) (.two (.one (.two (.draw [(true, 0), (true, 1), (true, 2), (true, 3), (true, 4), (true, 5), (true, 6), (true, 7), (true, 8), (true, 9), (true, 10), (true, 11), (true, 12), (true, 13), (true, 14), (true, 15), (true, 16)]) (.two (.two .leaf .leaf) .leaf))) .leaf))))))) .leaf))))) (.two .leaf .leaf)))) Tryz.func29 (by kernel_rfl) Tryz.ntmps29 (by kernel_rfl) (by kernel_rfl) [a0, a1] (by kernel_rfl) (of_eq_ (by kernel_rfl) h)

/-- (*shelfmark/shelfmarkref05.Store).Indexes -/
def S30 (a0 : Value) (R : Value → World → Prop) (w : World) : Prop :=
  LoopP (fun J vs w =>   -- [3, 4]
    NextP Tryz.prog (nilChk a0) (fun v9 w =>
    LiftP Tryz.prog (Instr.fieldAt 63 v9 1) (fun v10 w =>
    LiftP Tryz.prog (Instr.loadAt 61 v10) (fun v11 w =>
    NextP Tryz.prog (builtin Go.Builtin.len #[61] 3 #[false] #[v11]) (fun v12 w =>
    LiftP Tryz.prog (binS Go.BinOp.lss 3 (Go.Operand.tmp 7) (Go.Operand.tmp 12) (vs.tail.headD undef) v12) (fun v13 w =>
    CondP v13 (fun w =>
      JoinP (fun J_1 w =>
      LiftP Tryz.prog (binS Go.BinOp.add 3 (Go.Operand.tmp 18) (Go.Operand.const (Go.Value.int Go.IntKind.i64 1)) (vs.tail.headD undef) (Go.Value.int Go.IntKind.i64 1)) (fun v19 w =>
      CallP Tryz.prog 55 #[a0, v19] (fun v20 w =>
      LiftP Tryz.prog (Instr.extract v20 0) (fun v21 w =>
      LiftP Tryz.prog (Instr.extract v20 1) (fun v22 w =>
      LiftP Tryz.prog (Instr.alloc 53 true (.tuple #[])) (fun v5 w =>
      LiftU Tryz.prog (Instr.storeAt 53 v5 v21) (fun v_ w =>
      CondP v22 (fun w =>
        LiftP Tryz.prog (Instr.loadAt 53 v5) (fun v25 w =>
        LiftP Tryz.prog (Instr.buildSlice 48 1 #[(0, v25)]) (fun v26 w =>
        NextP Tryz.prog (builtin Go.Builtin.append #[48, 48] 48 #[false, false] #[(vs.headD undef), v26]) (fun v27 w =>
        J_1 [v27] w) w) w) w) (fun w =>
        J_1 [(vs.headD undef)] w) w) w) w) w) w) w) w) (fun vs_1 w =>   -- [3]
    LiftP Tryz.prog (binS Go.BinOp.add 3 (Go.Operand.tmp 14) (Go.Operand.const (Go.Value.int Go.IntKind.i64 1)) (vs.tail.headD undef) (Go.Value.int Go.IntKind.i64 1)) (fun v15 w =>
    J [(vs_1.headD undef), v15] w) w) w) (fun w =>
      R (vs.headD undef) w) w) w) w) w) w) w) [(Go.Value.slice none 0 0), (Go.Value.int Go.IntKind.i64 0)] w
theorem S30.calls (a0 : Value) (R : Value → World → Prop) (w : World) (h : S30 a0 R w) : Calls Tryz.prog 30 #[a0] w fun e w' => ∃ v, e = .returned v ∧ R v w' :=
  calls_of_tr (n := 29) (c := bodyOf Tryz.f30) (.two .leaf (.two .leaf (.two (.two .leaf (.one (.loop [3, 4] (.two (.two .leaf (.two .leaf .leaf)) (.join [3] (.one (.two .leaf (.two .leaf (.two .leaf .leaf)))) .leaf))))) (.two .leaf .leaf)))) Tryz.func30 (by kernel_rfl) Tryz.ntmps30 (by kernel_rfl) (by kernel_rfl) [a0] (by kernel_rfl) (of_eq_ (by kernel_rfl) h)

/-- shelfmark/shelfmarkref04.Key -/
def S40 (a0 : Value) (R : Value → World → Prop) (w : World) : Prop :=
  NextP Tryz.prog (builtin Go.Builtin.len #[9] 3 #[false] #[a0]) (fun v4 w =>
  LiftP Tryz.prog (binS Go.BinOp.geq 3 (Go.Operand.tmp 4) (Go.Operand.const (Go.Value.int Go.IntKind.i64 1)) v4 (Go.Value.int Go.IntKind.i64 1)) (fun v5 w =>
  GuardP v5 true (fun K w => K a0 w) (fun v7 w =>
  GuardP v5 true (fun K w => NextP Tryz.prog (builtin Go.Builtin.len #[9] 3 #[false] #[v7]) K w) (fun v8 w =>
  GuardP v5 true (fun K w => LiftP Tryz.prog (binS Go.BinOp.leq 3 (Go.Operand.tmp 8) (Go.Operand.const (Go.Value.int Go.IntKind.i64 16)) v8 (Go.Value.int Go.IntKind.i64 16)) K w) (fun v9 w =>
  PickP v5 v9 (Go.Value.bool false) (fun v10 w =>
  R v10 w) w) w) w) w) w) w
theorem S40.calls (a0 : Value) (R : Value → World → Prop) (w : World) (h : S40 a0 R w) : Calls Tryz.prog 40 #[a0] w fun e w' => ∃ v, e = .returned v ∧ R v w' :=
  calls_of_tr (n := 11) (c := bodyOf Tryz.f40) (.two .leaf (.two .leaf .leaf)) Tryz.func40 (by kernel_rfl) Tryz.ntmps40 (by kernel_rfl) (by kernel_rfl) [a0] (by kernel_rfl) (of_eq_ (by kernel_rfl) h)

/-- shelfmark/shelfmarkref04.Check -/
def S41 (a0 : Value) (R : Value → World → Prop) (w : World) : Prop :=
  NextP Tryz.prog (builtin Go.Builtin.len #[22] 3 #[false] #[a0]) (fun v4 w =>
  LiftP Tryz.prog (binS Go.BinOp.eql 3 (Go.Operand.tmp 4) (Go.Operand.const (Go.Value.int Go.IntKind.i64 0)) v4 (Go.Value.int Go.IntKind.i64 0)) (fun v5 w =>
  CondP v5 (fun w =>
    R (Go.Value.int Go.IntKind.i64 1) w) (fun w =>
    CallP Tryz.prog 43 #[a0] (fun v7 w =>
  R v7 w) w) w) w) w
theorem S41.calls (a0 : Value) (R : Value → World → Prop) (w : World) (h : S41 a0 R w) : Calls Tryz.prog 41 #[a0] w fun e w' => ∃ v, e = .returned v ∧ R v w' :=
  calls_of_tr (n := 8) (c := bodyOf Tryz.f41) (.two .leaf (.two (.two .leaf (.two (.two .leaf .leaf) .leaf)) (.two .leaf .leaf))) Tryz.func41 (by kernel_rfl) Tryz.ntmps41 (by kernel_rfl) (by kernel_rfl) [a0] (by kernel_rfl) (of_eq_ (by kernel_rfl) h)

/-- shelfmark/shelfmarkref05.limit -/
def S42 (a0 : Value) (R : Value → World → Prop) (w : World) : Prop :=
  LiftP Tryz.prog (binS Go.BinOp.geq 3 (Go.Operand.tmp 3) (Go.Operand.const (Go.Value.int Go.IntKind.i64 1)) a0 (Go.Value.int Go.IntKind.i64 1)) (fun v4 w =>
  GuardP v4 true (fun K w => K a0 w) (fun v6 w =>
  GuardP v4 true (fun K w => LiftP Tryz.prog (binS Go.BinOp.leq 3 (Go.Operand.tmp 6) (Go.Operand.const (Go.Value.int Go.IntKind.i64 64)) v6 (Go.Value.int Go.IntKind.i64 64)) K w) (fun v7 w =>
  PickP v4 v7 (Go.Value.bool false) (fun v8 w =>
  R v8 w) w) w) w) w
theorem S42.calls (a0 : Value) (R : Value → World → Prop) (w : World) (h : S42 a0 R w) : Calls Tryz.prog 42 #[a0] w fun e w' => ∃ v, e = .returned v ∧ R v w' :=
  calls_of_tr (n := 9) (c := bodyOf Tryz.f42) (.two .leaf (.two .leaf .leaf)) Tryz.func42 (by kernel_rfl) Tryz.ntmps42 (by kernel_rfl) (by kernel_rfl) [a0] (by kernel_rfl) (of_eq_ (by kernel_rfl) h)

/-- shelfmark/shelfmarkref03.Row -/
def S43 (a0 : Value) (R : Value → World → Prop) (w : World) : Prop :=
  NextP Tryz.prog (builtin Go.Builtin.len #[22] 3 #[false] #[a0]) (fun v5 w =>
  LiftP Tryz.prog (binS Go.BinOp.gtr 3 (Go.Operand.tmp 5) (Go.Operand.const (Go.Value.int Go.IntKind.i64 4)) v5 (Go.Value.int Go.IntKind.i64 4)) (fun v6 w =>
  CondP v6 (fun w =>
    R (Go.Value.int Go.IntKind.i64 4) w) (fun w =>
    LoopP (fun J vs w =>   -- [3]
    NextP Tryz.prog (builtin Go.Builtin.len #[22] 3 #[false] #[a0]) (fun v9 w =>
    LiftP Tryz.prog (binS Go.BinOp.lss 3 (Go.Operand.tmp 7) (Go.Operand.tmp 9) (vs.headD undef) v9) (fun v10 w =>
    CondP v10 (fun w =>
      LiftP Tryz.prog (Instr.indexAt 22 a0 (vs.headD undef)) (fun v15 w =>
    LiftP Tryz.prog (Instr.loadAt 67 v15) (fun v16 w =>
    CallP Tryz.prog 68 #[v16] (fun v17 w =>
    LiftP Tryz.prog (Op.unary Go.UnOp.not v17) (fun v18 w =>
    CondP v18 (fun w =>
      R (Go.Value.int Go.IntKind.i64 1) w) (fun w =>
      LiftP Tryz.prog (binS Go.BinOp.add 3 (Go.Operand.tmp 11) (Go.Operand.const (Go.Value.int Go.IntKind.i64 1)) (vs.headD undef) (Go.Value.int Go.IntKind.i64 1)) (fun v12 w =>
    J [v12] w) w) w) w) w) w) w) (fun w =>
      R (Go.Value.int Go.IntKind.i64 0) w) w) w) w) [(Go.Value.int Go.IntKind.i64 0)] w) w) w) w
theorem S43.calls (a0 : Value) (R : Value → World → Prop) (w : World) (h : S43 a0 R w) : Calls Tryz.prog 43 #[a0] w fun e w' => ∃ v, e = .returned v ∧ R v w' :=
  calls_of_tr (n := 19) (c := bodyOf Tryz.f43) (.two .leaf (.two (.two .leaf (.two (.two .leaf .leaf) .leaf)) (.two (.two .leaf (.one (.loop [3] (.two (.two .leaf (.two .leaf .leaf)) (.two (.one (.two .leaf (.two (.two .leaf .leaf) .leaf))) .leaf))))) (.two .leaf .leaf)))) Tryz.func43 (by kernel_rfl) Tryz.ntmps43 (by kernel_rfl) (by kernel_rfl) [a0] (by kernel_rfl) (of_eq_ (by kernel_rfl) h)

/-- shelfmark/shelfmarkref04.CheckIndex -/
def S44 (a0 : Value) (R : Value → World → Prop) (w : World) : Prop :=
  LiftP Tryz.prog (Instr.box 53 a0) (fun v1 w =>
  LiftP Tryz.prog (Instr.fieldAt 53 v1 0) (fun v4 w =>
  LiftP Tryz.prog (Instr.loadAt 3 v4) (fun v5 w =>
  LiftP Tryz.prog (binS Go.BinOp.lss 3 (Go.Operand.tmp 5) (Go.Operand.const (Go.Value.int Go.IntKind.i64 1)) v5 (Go.Value.int Go.IntKind.i64 1)) (fun v6 w =>
  GuardP v6 false (fun K w => LiftP Tryz.prog (Instr.fieldAt 53 v1 0) K w) (fun v8 w =>
  GuardP v6 false (fun K w => LiftP Tryz.prog (Instr.loadAt 3 v8) K w) (fun v9 w =>
  GuardP v6 false (fun K w => LiftP Tryz.prog (binS Go.BinOp.gtr 3 (Go.Operand.tmp 9) (Go.Operand.const (Go.Value.int Go.IntKind.i64 6)) v9 (Go.Value.int Go.IntKind.i64 6)) K w) (fun v10 w =>
  PickP v6 (Go.Value.bool true) v10 (fun v11 w =>
  GuardP v11 false (fun K w => LiftP Tryz.prog (Instr.fieldAt 53 v1 1) K w) (fun v13 w =>
  GuardP v11 false (fun K w => LiftP Tryz.prog (Instr.loadAt 24 v13) K w) (fun v14 w =>
  GuardP v11 false (fun K w => NextP Tryz.prog (builtin Go.Builtin.len #[24] 3 #[false] #[v14]) K w) (fun v15 w =>
  GuardP v11 false (fun K w => LiftP Tryz.prog (binS Go.BinOp.eql 3 (Go.Operand.tmp 15) (Go.Operand.const (Go.Value.int Go.IntKind.i64 0)) v15 (Go.Value.int Go.IntKind.i64 0)) K w) (fun v16 w =>
  PickP v11 (Go.Value.bool true) v16 (fun v17 w =>
  CondP v17 (fun w =>
    R (Go.Value.int Go.IntKind.i64 1) w) (fun w =>
    LiftP Tryz.prog (Instr.fieldAt 53 v1 1) (fun v18 w =>
  LiftP Tryz.prog (Instr.loadAt 24 v18) (fun v19 w =>
  NextP Tryz.prog (builtin Go.Builtin.len #[24] 3 #[false] #[v19]) (fun v20 w =>
  LiftP Tryz.prog (binS Go.BinOp.gtr 3 (Go.Operand.tmp 20) (Go.Operand.const (Go.Value.int Go.IntKind.i64 2)) v20 (Go.Value.int Go.IntKind.i64 2)) (fun v21 w =>
  CondP v21 (fun w =>
    R (Go.Value.int Go.IntKind.i64 4) w) (fun w =>
    LoopP (fun J vs w =>   -- [3]
    LiftP Tryz.prog (Instr.fieldAt 53 v1 1) (fun v23 w =>
    LiftP Tryz.prog (Instr.loadAt 24 v23) (fun v24 w =>
    NextP Tryz.prog (builtin Go.Builtin.len #[24] 3 #[false] #[v24]) (fun v25 w =>
    LiftP Tryz.prog (binS Go.BinOp.lss 3 (Go.Operand.tmp 22) (Go.Operand.tmp 25) (vs.headD undef) v25) (fun v26 w =>
    CondP v26 (fun w =>
      DrawP (fun S w =>
    YieldP Tryz.prog S (Instr.fieldAt 53 v1 1) (fun v29 w =>
    YieldP Tryz.prog S (Instr.loadAt 24 v29) (fun v30 w =>
    YieldP Tryz.prog S (Instr.indexAt 24 v30 (vs.headD undef)) (fun v32 w =>
    YieldP Tryz.prog S (Instr.loadAt 3 v32) (fun v33 w =>
    YieldP Tryz.prog S (binS Go.BinOp.lss 3 (Go.Operand.tmp 33) (Go.Operand.const (Go.Value.int Go.IntKind.i64 0)) v33 (Go.Value.int Go.IntKind.i64 0)) (fun v34 w =>
    GuardP v34 false (fun K w => YieldP Tryz.prog S (Instr.fieldAt 53 v1 1) K w) (fun v36 w =>
    GuardP v34 false (fun K w => YieldP Tryz.prog S (Instr.loadAt 24 v36) K w) (fun v37 w =>
    GuardP v34 false (fun K w => K (vs.headD undef) w) (fun v38 w =>
    GuardP v34 false (fun K w => YieldP Tryz.prog S (Instr.indexAt 24 v37 v38) K w) (fun v39 w =>
    GuardP v34 false (fun K w => YieldP Tryz.prog S (Instr.loadAt 3 v39) K w) (fun v40 w =>
    GuardP v34 false (fun K w => YieldP Tryz.prog S (binS Go.BinOp.gtr 3 (Go.Operand.tmp 40) (Go.Operand.const (Go.Value.int Go.IntKind.i64 3)) v40 (Go.Value.int Go.IntKind.i64 3)) K w) (fun v41 w =>
    PickP v34 (Go.Value.bool true) v41 (fun v42 w =>
    GuardP v42 false (fun K w => K (vs.headD undef) w) (fun v44 w =>
    GuardP v42 false (fun K w => YieldP Tryz.prog S (binS Go.BinOp.eql 3 (Go.Operand.tmp 44) (Go.Operand.const (Go.Value.int Go.IntKind.i64 1)) v44 (Go.Value.int Go.IntKind.i64 1)) K w) (fun v45 w =>
    GuardP v42 false (fun K w => K v45 w) (fun v46 w =>
    GuardP v46 true (fun K w => YieldP Tryz.prog S (Instr.fieldAt 53 v1 1) K w) (fun v47 w =>
    GuardP v46 true (fun K w => YieldP Tryz.prog S (Instr.loadAt 24 v47) K w) (fun v48 w =>
    GuardP v46 true (fun K w => YieldP Tryz.prog S (Instr.indexAt 24 v48 (Go.Value.int Go.IntKind.i64 0)) K w) (fun v49 w =>
    GuardP v46 true (fun K w => YieldP Tryz.prog S (Instr.loadAt 3 v49) K w) (fun v50 w =>
    GuardP v46 true (fun K w => YieldP Tryz.prog S (Instr.fieldAt 53 v1 1) K w) (fun v51 w =>
    GuardP v46 true (fun K w => YieldP Tryz.prog S (Instr.loadAt 24 v51) K w) (fun v52 w =>
    GuardP v46 true (fun K w => YieldP Tryz.prog S (Instr.indexAt 24 v52 (Go.Value.int Go.IntKind.i64 1)) K w) (fun v53 w =>
    GuardP v46 true (fun K w => YieldP Tryz.prog S (Instr.loadAt 3 v53) K w) (fun v54 w =>
    GuardP v46 true (fun K w => YieldP Tryz.prog S (binS Go.BinOp.eql 3 (Go.Operand.tmp 50) (Go.Operand.tmp 54) v50 v54) K w) (fun v55 w =>
    GuardP v42 false (fun K w => PickP v46 v55 (Go.Value.bool false) K w) (fun v56 w =>
    PickP v42 (Go.Value.bool true) v56 (fun v57 w =>
    CondP v57 (fun w =>
      R (Go.Value.int Go.IntKind.i64 1) w) (fun w =>
      LiftP Tryz.prog (binS Go.BinOp.add 3 (Go.Operand.tmp 27) (Go.Operand.const (Go.Value.int Go.IntKind.i64 1)) (vs.headD undef) (Go.Value.int Go.IntKind.i64 1)) (fun v28 w =>
    J [v28] w) w) w) w) w) w) w) w) w) w) w) w) w) w) w) w) w) w) w) w) w) w) w) w) w) w) w) w) w) w) (fun w =>
      R (Go.Value.int Go.IntKind.i64 0) w) w) w) w) w) w) [(Go.Value.int Go.IntKind.i64 0)] w) w) w) w) w) w) w) w) w) w) w) w) w) w) w) w) w) w) w) w
theorem S44.calls (a0 : Value) (R : Value → World → Prop) (w : World) (h : S44 a0 R w) : Calls Tryz.prog 44 #[a0] w fun e w' => ∃ v, e = .returned v ∧ R v w' :=
  calls_of_tr (n := 58) (c := bodyOf Tryz.f44) (.two .leaf (.two (.two .leaf (.two (.two .leaf .leaf) .leaf)) (.two (.two .leaf (.two (.two .leaf .leaf) .leaf)) (.two (.two .leaf (.one (.loop [3] (.two (.two .leaf (.two .leaf .leaf)) (.two (.one (.two (.draw [(true, 0), (true, 1), (true, 2), (true, 3), (true, 4), (true, 5), (true, 6), (true, 7), (true, 8), (true, 9), (true, 10), (true, 11), (true, 12), (true, 13), (true, 14), (true, 15), (true, 16), (true, 17), (true, 18), (true, 19), (true, 20), (true, 21), (true, 22), (true, 23), (true, 24), (true, 25), (true, 26), (true, 27), (true, 28)]) (.two (.two .leaf .leaf) .leaf))) .leaf))))) (.two .leaf .leaf))))) Tryz.func44 (by kernel_rfl) Tryz.ntmps44 (by kernel_rfl) (by kernel_rfl) [a0] (by kernel_rfl) (of_eq_ (by kernel_rfl) h)

/-- shelfmark/shelfmarkref03.Compare -/
def S51 (a0 a1 : Value) (R : Value → World → Prop) (w : World) : Prop :=
  CallP Tryz.prog 43 #[a0] (fun v7 w =>
  LiftP Tryz.prog (binS Go.BinOp.neq 29 (Go.Operand.tmp 7) (Go.Operand.const (Go.Value.int Go.IntKind.i64 0)) v7 (Go.Value.int Go.IntKind.i64 0)) (fun v8 w =>
  GuardP v8 false (fun K w => K a1 w) (fun v10 w =>
  GuardP v8 false (fun K w => CallP Tryz.prog 43 #[v10] K w) (fun v11 w =>
  GuardP v8 false (fun K w => LiftP Tryz.prog (binS Go.BinOp.neq 29 (Go.Operand.tmp 11) (Go.Operand.const (Go.Value.int Go.IntKind.i64 0)) v11 (Go.Value.int Go.IntKind.i64 0)) K w) (fun v12 w =>
  PickP v8 (Go.Value.bool true) v12 (fun v13 w =>
  CondP v13 (fun w =>
    R (Go.Value.int Go.IntKind.i64 0) w) (fun w =>
    LoopP (fun J vs w =>   -- [5]
    NextP Tryz.prog (builtin Go.Builtin.len #[22] 3 #[false] #[a0]) (fun v16 w =>
    LiftP Tryz.prog (binS Go.BinOp.lss 3 (Go.Operand.tmp 14) (Go.Operand.tmp 16) (vs.headD undef) v16) (fun v17 w =>
    GuardP v17 true (fun K w => K (vs.headD undef) w) (fun v19 w =>
    GuardP v17 true (fun K w => K a1 w) (fun v20 w =>
    GuardP v17 true (fun K w => NextP Tryz.prog (builtin Go.Builtin.len #[22] 3 #[false] #[v20]) K w) (fun v21 w =>
    GuardP v17 true (fun K w => LiftP Tryz.prog (binS Go.BinOp.lss 3 (Go.Operand.tmp 19) (Go.Operand.tmp 21) v19 v21) K w) (fun v22 w =>
    PickP v17 v22 (Go.Value.bool false) (fun v23 w =>
    CondP v23 (fun w =>
      DrawP (fun S w =>
    YieldP Tryz.prog S (Instr.indexAt 22 a0 (vs.headD undef)) (fun v28 w =>
    YieldP Tryz.prog S (Instr.loadAt 67 v28) (fun v29 w =>
    YieldP Tryz.prog S (Instr.indexAt 22 a1 (vs.headD undef)) (fun v32 w =>
    YieldP Tryz.prog S (Instr.loadAt 67 v32) (fun v33 w =>
    CallP Tryz.prog 75 #[v29, v33] (fun v34 w =>
    CondP v34 (fun w =>
      R (Go.Value.int Go.IntKind.i64 (-1)) w) (fun w =>
      DrawP (fun S w =>
    YieldP Tryz.prog S (Instr.indexAt 22 a1 (vs.headD undef)) (fun v37 w =>
    YieldP Tryz.prog S (Instr.loadAt 67 v37) (fun v38 w =>
    YieldP Tryz.prog S (Instr.indexAt 22 a0 (vs.headD undef)) (fun v41 w =>
    YieldP Tryz.prog S (Instr.loadAt 67 v41) (fun v42 w =>
    CallP Tryz.prog 75 #[v38, v42] (fun v43 w =>
    CondP v43 (fun w =>
      R (Go.Value.int Go.IntKind.i64 1) w) (fun w =>
      LiftP Tryz.prog (binS Go.BinOp.add 3 (Go.Operand.tmp 24) (Go.Operand.const (Go.Value.int Go.IntKind.i64 1)) (vs.headD undef) (Go.Value.int Go.IntKind.i64 1)) (fun v25 w =>
    J [v25] w) w) w) w) w) w) w) w) w) w) w) w) w) w) w) w) (fun w =>
      NextP Tryz.prog (builtin Go.Builtin.len #[22] 3 #[false] #[a0]) (fun v45 w =>
  NextP Tryz.prog (builtin Go.Builtin.len #[22] 3 #[false] #[a1]) (fun v47 w =>
  LiftP Tryz.prog (binS Go.BinOp.lss 3 (Go.Operand.tmp 45) (Go.Operand.tmp 47) v45 v47) (fun v48 w =>
  CondP v48 (fun w =>
    R (Go.Value.int Go.IntKind.i64 (-1)) w) (fun w =>
    NextP Tryz.prog (builtin Go.Builtin.len #[22] 3 #[false] #[a0]) (fun v50 w =>
  NextP Tryz.prog (builtin Go.Builtin.len #[22] 3 #[false] #[a1]) (fun v52 w =>
  LiftP Tryz.prog (binS Go.BinOp.gtr 3 (Go.Operand.tmp 50) (Go.Operand.tmp 52) v50 v52) (fun v53 w =>
  CondP v53 (fun w =>
    R (Go.Value.int Go.IntKind.i64 1) w) (fun w =>
    R (Go.Value.int Go.IntKind.i64 0) w) w) w) w) w) w) w) w) w) w) w) w) w) w) w) w) w) [(Go.Value.int Go.IntKind.i64 0)] w) w) w) w) w) w) w) w
theorem S51.calls (a0 a1 : Value) (R : Value → World → Prop) (w : World) (h : S51 a0 a1 R w) : Calls Tryz.prog 51 #[a0, a1] w fun e w' => ∃ v, e = .returned v ∧ R v w' :=
  calls_of_tr (n := 54) (c := bodyOf Tryz.f51) (.two .leaf (.two (.two .leaf (.two (.two .leaf .leaf) .leaf)) (.two (.two .leaf (.one (.loop [5] (.two (.two .leaf (.two .leaf .leaf)) (.two (.one (.two (.two (.drawL [(true, 0), (true, 1), (true, 2), (true, 3), (true, 4), (true, 5), (true, 6), (true, 7)] 8) (.two (.two .leaf .leaf) .leaf)) (.two (.drawL [(true, 0), (true, 1), (true, 2), (true, 3), (true, 4), (true, 5), (true, 6), (true, 7)] 8) (.two (.two .leaf .leaf) .leaf)))) .leaf))))) (.two (.two .leaf (.two (.two .leaf .leaf) .leaf)) (.two (.two .leaf (.two (.two .leaf .leaf) .leaf)) (.two .leaf .leaf)))))) Tryz.func51 (by kernel_rfl) Tryz.ntmps51 (by kernel_rfl) (by kernel_rfl) [a0, a1] (by kernel_rfl) (of_eq_ (by kernel_rfl) h)

/-- (*shelfmark/shelfmarkref05.Store).Find -/
def S52 (a0 a1 : Value) (R : Value → World → Prop) (w : World) : Prop :=
  LoopP (fun J vs w =>   -- [6]
    NextP Tryz.prog (nilChk a0) (fun v9 w =>
    LiftP Tryz.prog (Instr.fieldAt 63 v9 0) (fun v10 w =>
    LiftP Tryz.prog (Instr.loadAt 35 v10) (fun v11 w =>
    NextP Tryz.prog (builtin Go.Builtin.len #[35] 3 #[false] #[v11]) (fun v12 w =>
    LiftP Tryz.prog (binS Go.BinOp.lss 3 (Go.Operand.tmp 7) (Go.Operand.tmp 12) (vs.headD undef) v12) (fun v13 w =>
    GuardP v13 true (fun K w => K a0 w) (fun v15 w =>
    GuardP v13 true (fun K w => NextP Tryz.prog (nilChk v15) K w) (fun v16 w =>
    GuardP v13 true (fun K w => LiftP Tryz.prog (Instr.fieldAt 63 v16 0) K w) (fun v17 w =>
    GuardP v13 true (fun K w => LiftP Tryz.prog (Instr.loadAt 35 v17) K w) (fun v18 w =>
    GuardP v13 true (fun K w => K (vs.headD undef) w) (fun v19 w =>
    GuardP v13 true (fun K w => LiftP Tryz.prog (Instr.indexAt 35 v18 v19) K w) (fun v20 w =>
    GuardP v13 true (fun K w => LiftP Tryz.prog (Instr.fieldAt 40 v20 0) K w) (fun v21 w =>
    GuardP v13 true (fun K w => LiftP Tryz.prog (Instr.loadAt 9 v21) K w) (fun v22 w =>
    GuardP v13 true (fun K w => K a1 w) (fun v23 w =>
    GuardP v13 true (fun K w => LiftP Tryz.prog (binS Go.BinOp.lss 9 (Go.Operand.tmp 22) (Go.Operand.tmp 23) v22 v23) K w) (fun v24 w =>
    PickP v13 v24 (Go.Value.bool false) (fun v25 w =>
    CondP v25 (fun w =>
      LiftP Tryz.prog (binS Go.BinOp.add 3 (Go.Operand.tmp 26) (Go.Operand.const (Go.Value.int Go.IntKind.i64 1)) (vs.headD undef) (Go.Value.int Go.IntKind.i64 1)) (fun v27 w =>
    J [v27] w) w) (fun w =>
      DrawP (fun S w =>
  YieldN Tryz.prog S (nilChk a0) (fun v31 w =>
  YieldP Tryz.prog S (Instr.fieldAt 63 v31 0) (fun v32 w =>
  YieldP Tryz.prog S (Instr.loadAt 35 v32) (fun v33 w =>
  YieldN Tryz.prog S (builtin Go.Builtin.len #[35] 3 #[false] #[v33]) (fun v34 w =>
  YieldP Tryz.prog S (binS Go.BinOp.lss 3 (Go.Operand.tmp 29) (Go.Operand.tmp 34) (vs.headD undef) v34) (fun v35 w =>
  GuardP v35 true (fun K w => K a0 w) (fun v37 w =>
  GuardP v35 true (fun K w => YieldN Tryz.prog S (nilChk v37) K w) (fun v38 w =>
  GuardP v35 true (fun K w => YieldP Tryz.prog S (Instr.fieldAt 63 v38 0) K w) (fun v39 w =>
  GuardP v35 true (fun K w => YieldP Tryz.prog S (Instr.loadAt 35 v39) K w) (fun v40 w =>
  GuardP v35 true (fun K w => K (vs.headD undef) w) (fun v41 w =>
  GuardP v35 true (fun K w => YieldP Tryz.prog S (Instr.indexAt 35 v40 v41) K w) (fun v42 w =>
  GuardP v35 true (fun K w => YieldP Tryz.prog S (Instr.fieldAt 40 v42 0) K w) (fun v43 w =>
  GuardP v35 true (fun K w => YieldP Tryz.prog S (Instr.loadAt 9 v43) K w) (fun v44 w =>
  GuardP v35 true (fun K w => K a1 w) (fun v45 w =>
  GuardP v35 true (fun K w => YieldP Tryz.prog S (binS Go.BinOp.eql 9 (Go.Operand.tmp 44) (Go.Operand.tmp 45) v44 v45) K w) (fun v46 w =>
  PickP v35 v46 (Go.Value.bool false) (fun v47 w =>
  R (.tuple #[(vs.headD undef), v47]) w) w) w) w) w) w) w) w) w) w) w) w) w) w) w) w) w) w) w) w) w) w) w) w) w) w) w) w) w) w) w) w) w) w) w) [(Go.Value.int Go.IntKind.i64 0)] w
theorem S52.calls (a0 a1 : Value) (R : Value → World → Prop) (w : World) (h : S52 a0 a1 R w) : Calls Tryz.prog 52 #[a0, a1] w fun e w' => ∃ v, e = .returned v ∧ R v w' :=
  calls_of_tr (n := 48) (c := bodyOf Tryz.f52) (.two .leaf (.two .leaf (.two (.one (.loop [6] (.two (.two .leaf (.two .leaf .leaf)) (.one .leaf)))) (.two (.draw [(true, 0), (true, 1), (true, 2), (true, 3), (true, 4), (true, 5), (true, 6), (true, 7), (true, 8), (true, 9), (true, 10), (true, 11), (true, 12), (true, 13), (true, 14), (true, 15), (true, 16), (true, 17), (true, 18), (true, 19), (true, 20), (true, 21)]) .leaf)))) Tryz.func52 (by kernel_rfl) Tryz.ntmps52 (by kernel_rfl) (by kernel_rfl) [a0, a1] (by kernel_rfl) (of_eq_ (by kernel_rfl) h)

/-- (*shelfmark/shelfmarkref05.Store).put -/
def S53 (a0 a1 a2 : Value) (R : Value → World → Prop) (w : World) : Prop :=
  CallP Tryz.prog 52 #[a0, a1] (fun v13 w =>
  LiftP Tryz.prog (Instr.extract v13 0) (fun v14 w =>
  LiftP Tryz.prog (Instr.extract v13 1) (fun v15 w =>
  NextP Tryz.prog (nilChk a0) (fun v18 w =>
  LiftP Tryz.prog (Instr.fieldAt 63 v18 0) (fun v19 w =>
  LiftP Tryz.prog (Instr.loadAt 35 v19) (fun v20 w =>
  LiftP Tryz.prog (Instr.sliceAt 35 v20 none (some v14) none) (fun v22 w =>
  NextP Tryz.prog (builtin Go.Builtin.append #[35, 35] 35 #[false, false] #[(Go.Value.slice none 0 0), v22]) (fun v23 w =>
  NextP Tryz.prog (builtin Go.Builtin.append #[23, 23] 23 #[false, false] #[(Go.Value.slice none 0 0), a2]) (fun v26 w =>
  LiftP Tryz.prog (Instr.build 40 #[(0, a1), (1, v26)]) (fun v30 w =>
  LiftP Tryz.prog (Instr.buildSlice 35 1 #[(0, v30)]) (fun v31 w =>
  NextP Tryz.prog (builtin Go.Builtin.append #[35, 35] 35 #[false, false] #[v23, v31]) (fun v32 w =>
  JoinP (fun J w =>
    CondP v15 (fun w =>
      LiftP Tryz.prog (binS Go.BinOp.add 3 (Go.Operand.tmp 34) (Go.Operand.const (Go.Value.int Go.IntKind.i64 1)) v14 (Go.Value.int Go.IntKind.i64 1)) (fun v35 w =>
      J [v35] w) w) (fun w =>
      J [v14] w) w) (fun vs w =>   -- [6]
  NextP Tryz.prog (nilChk a0) (fun v39 w =>
  LiftP Tryz.prog (Instr.fieldAt 63 v39 0) (fun v40 w =>
  LiftP Tryz.prog (Instr.loadAt 35 v40) (fun v41 w =>
  LiftP Tryz.prog (Instr.sliceAt 35 v41 (some (vs.headD undef)) none none) (fun v43 w =>
  NextP Tryz.prog (builtin Go.Builtin.append #[35, 35] 35 #[false, false] #[v32, v43]) (fun v44 w =>
  NextP Tryz.prog (nilChk a0) (fun v45 w =>
  LiftP Tryz.prog (Instr.fieldAt 63 v45 0) (fun v46 w =>
  LiftU Tryz.prog (Instr.storeAt 35 v46 v44) (fun v_ w =>
  R (.tuple #[]) w) w) w) w) w) w) w) w) w) w) w) w) w) w) w) w) w) w) w) w) w) w
theorem S53.calls (a0 a1 a2 : Value) (R : Value → World → Prop) (w : World) (h : S53 a0 a1 a2 R w) : Calls Tryz.prog 53 #[a0, a1, a2] w fun e w' => ∃ v, e = .returned v ∧ R v w' :=
  calls_of_tr (n := 47) (c := bodyOf Tryz.f53) (.two .leaf (.two .leaf (.two .leaf (.two .leaf (.two .leaf (.two .leaf (.join [6] (.two .leaf (.two .leaf .leaf)) .leaf))))))) Tryz.func53 (by kernel_rfl) Tryz.ntmps53 (by kernel_rfl) (by kernel_rfl) [a0, a1, a2] (by kernel_rfl) (of_eq_ (by kernel_rfl) h)

/-- (*shelfmark/shelfmarkref05.Store).del -/
def S54 (a0 a1 : Value) (R : Value → World → Prop) (w : World) : Prop :=
  CallP Tryz.prog 52 #[a0, a1] (fun v10 w =>
  LiftP Tryz.prog (Instr.extract v10 0) (fun v11 w =>
  LiftP Tryz.prog (Instr.extract v10 1) (fun v12 w =>
  LiftP Tryz.prog (Op.unary Go.UnOp.not v12) (fun v14 w =>
  CondP v14 (fun w =>
    R (.tuple #[]) w) (fun w =>
    NextP Tryz.prog (nilChk a0) (fun v17 w =>
  LiftP Tryz.prog (Instr.fieldAt 63 v17 0) (fun v18 w =>
  LiftP Tryz.prog (Instr.loadAt 35 v18) (fun v19 w =>
  LiftP Tryz.prog (Instr.sliceAt 35 v19 none (some v11) none) (fun v21 w =>
  NextP Tryz.prog (builtin Go.Builtin.append #[35, 35] 35 #[false, false] #[(Go.Value.slice none 0 0), v21]) (fun v22 w =>
  NextP Tryz.prog (nilChk a0) (fun v26 w =>
  LiftP Tryz.prog (Instr.fieldAt 63 v26 0) (fun v27 w =>
  LiftP Tryz.prog (Instr.loadAt 35 v27) (fun v28 w =>
  LiftP Tryz.prog (binS Go.BinOp.add 3 (Go.Operand.tmp 29) (Go.Operand.const (Go.Value.int Go.IntKind.i64 1)) v11 (Go.Value.int Go.IntKind.i64 1)) (fun v30 w =>
  LiftP Tryz.prog (Instr.sliceAt 35 v28 (some v30) none none) (fun v31 w =>
  NextP Tryz.prog (builtin Go.Builtin.append #[35, 35] 35 #[false, false] #[v22, v31]) (fun v32 w =>
  NextP Tryz.prog (nilChk a0) (fun v33 w =>
  LiftP Tryz.prog (Instr.fieldAt 63 v33 0) (fun v34 w =>
  LiftU Tryz.prog (Instr.storeAt 35 v34 v32) (fun v_ w =>
  R (.tuple #[]) w) w) w) w) w) w) w) w) w) w) w) w) w) w) w) w) w) w) w) w
theorem S54.calls (a0 a1 : Value) (R : Value → World → Prop) (w : World) (h : S54 a0 a1 R w) : Calls Tryz.prog 54 #[a0, a1] w fun e w' => ∃ v, e = .returned v ∧ R v w' :=
  calls_of_tr (n := 35) (c := bodyOf Tryz.f54) (.two .leaf (.two (.two .leaf (.two .leaf .leaf)) (.two .leaf (.two .leaf .leaf)))) Tryz.func54 (by kernel_rfl) Tryz.ntmps54 (by kernel_rfl) (by kernel_rfl) [a0, a1] (by kernel_rfl) (of_eq_ (by kernel_rfl) h)

/-- (*shelfmark/shelfmarkref05.Store).Index -/
def S55 (a0 a1 : Value) (R : Value → World → Prop) (w : World) : Prop :=
  LiftP Tryz.prog (Instr.alloc 53 true (.tuple #[])) (fun v4 w =>
  LiftP Tryz.prog (binS Go.BinOp.lss 3 (Go.Operand.tmp 6) (Go.Operand.const (Go.Value.int Go.IntKind.i64 1)) a1 (Go.Value.int Go.IntKind.i64 1)) (fun v7 w =>
  GuardP v7 false (fun K w => K a1 w) (fun v9 w =>
  GuardP v7 false (fun K w => K a0 w) (fun v10 w =>
  GuardP v7 false (fun K w => NextP Tryz.prog (nilChk v10) K w) (fun v11 w =>
  GuardP v7 false (fun K w => LiftP Tryz.prog (Instr.fieldAt 63 v11 1) K w) (fun v12 w =>
  GuardP v7 false (fun K w => LiftP Tryz.prog (Instr.loadAt 61 v12) K w) (fun v13 w =>
  GuardP v7 false (fun K w => NextP Tryz.prog (builtin Go.Builtin.len #[61] 3 #[false] #[v13]) K w) (fun v14 w =>
  GuardP v7 false (fun K w => LiftP Tryz.prog (binS Go.BinOp.gtr 3 (Go.Operand.tmp 9) (Go.Operand.tmp 14) v9 v14) K w) (fun v15 w =>
  PickP v7 (Go.Value.bool true) v15 (fun v16 w =>
  GuardP v16 false (fun K w => K a0 w) (fun v18 w =>
  GuardP v16 false (fun K w => NextP Tryz.prog (nilChk v18) K w) (fun v19 w =>
  GuardP v16 false (fun K w => LiftP Tryz.prog (Instr.fieldAt 63 v19 1) K w) (fun v20 w =>
  GuardP v16 false (fun K w => LiftP Tryz.prog (Instr.loadAt 61 v20) K w) (fun v21 w =>
  GuardP v16 false (fun K w => K a1 w) (fun v22 w =>
  GuardP v16 false (fun K w => LiftP Tryz.prog (binS Go.BinOp.sub 3 (Go.Operand.tmp 22) (Go.Operand.const (Go.Value.int Go.IntKind.i64 1)) v22 (Go.Value.int Go.IntKind.i64 1)) K w) (fun v23 w =>
  GuardP v16 false (fun K w => LiftP Tryz.prog (Instr.indexAt 61 v21 v23) K w) (fun v24 w =>
  GuardP v16 false (fun K w => LiftP Tryz.prog (Instr.loadAt 24 v24) K w) (fun v25 w =>
  GuardP v16 false (fun K w => NextP Tryz.prog (builtin Go.Builtin.len #[24] 3 #[false] #[v25]) K w) (fun v26 w =>
  GuardP v16 false (fun K w => LiftP Tryz.prog (binS Go.BinOp.eql 3 (Go.Operand.tmp 26) (Go.Operand.const (Go.Value.int Go.IntKind.i64 0)) v26 (Go.Value.int Go.IntKind.i64 0)) K w) (fun v27 w =>
  PickP v16 (Go.Value.bool true) v27 (fun v28 w =>
  CondP v28 (fun w =>
    LiftP Tryz.prog (Instr.build 53 #[]) (fun v29 w =>
    LiftU Tryz.prog (Instr.storeAt 53 v4 v29) (fun v_ w =>
    RetC Tryz.prog v4 53 (fun x => R (.tuple #[x, (Go.Value.bool false)]) w) w) w) w) (fun w =>
    NextP Tryz.prog (nilChk a0) (fun v32 w =>
  LiftP Tryz.prog (Instr.fieldAt 63 v32 1) (fun v33 w =>
  LiftP Tryz.prog (Instr.loadAt 61 v33) (fun v34 w =>
  LiftP Tryz.prog (binS Go.BinOp.sub 3 (Go.Operand.tmp 35) (Go.Operand.const (Go.Value.int Go.IntKind.i64 1)) a1 (Go.Value.int Go.IntKind.i64 1)) (fun v36 w =>
  LiftP Tryz.prog (Instr.indexAt 61 v34 v36) (fun v37 w =>
  LiftP Tryz.prog (Instr.loadAt 24 v37) (fun v38 w =>
  LiftP Tryz.prog (Instr.build 53 #[(0, a1), (1, v38)]) (fun v39 w =>
  LiftU Tryz.prog (Instr.storeAt 53 v4 v39) (fun v__1 w =>
  RetC Tryz.prog v4 53 (fun x_1 => R (.tuple #[x_1, (Go.Value.bool true)]) w) w) w) w) w) w) w) w) w) w) w) w) w) w) w) w) w) w) w) w) w) w) w) w) w) w) w) w) w) w) w) w
theorem S55.calls (a0 a1 : Value) (R : Value → World → Prop) (w : World) (h : S55 a0 a1 R w) : Calls Tryz.prog 55 #[a0, a1] w fun e w' => ∃ v, e = .returned v ∧ R v w' :=
  calls_of_tr (n := 40) (c := bodyOf Tryz.f55) (.two .leaf (.two (.two .leaf (.two (.two .leaf .leaf) .leaf)) (.two .leaf .leaf))) Tryz.func55 (by kernel_rfl) Tryz.ntmps55 (by kernel_rfl) (by kernel_rfl) [a0, a1] (by kernel_rfl) (of_eq_ (by kernel_rfl) h)

/-- (*shelfmark/shelfmarkref05.Store).Area -/
def S56 (a0 a1 a2 a3 : Value) (R : Value → World → Prop) (w : World) : Prop :=
  LiftP Tryz.prog (Instr.box 53 a1) (fun v5 w =>
  LoopP (fun J vs w =>   -- [9, 10]
    NextP Tryz.prog (nilChk a0) (fun v18 w =>
    LiftP Tryz.prog (Instr.fieldAt 63 v18 0) (fun v19 w =>
    LiftP Tryz.prog (Instr.loadAt 35 v19) (fun v20 w =>
    NextP Tryz.prog (builtin Go.Builtin.len #[35] 3 #[false] #[v20]) (fun v21 w =>
    LiftP Tryz.prog (binS Go.BinOp.lss 3 (Go.Operand.tmp 16) (Go.Operand.tmp 21) (vs.tail.headD undef) v21) (fun v22 w =>
    CondP v22 (fun w =>
      JoinP (fun J_1 w =>
      DrawP (fun S w =>
      YieldP Tryz.prog S (Instr.loadAt 53 v5) (fun v26 w =>
      YieldN Tryz.prog S (nilChk a0) (fun v28 w =>
      YieldP Tryz.prog S (Instr.fieldAt 63 v28 0) (fun v29 w =>
      YieldP Tryz.prog S (Instr.loadAt 35 v29) (fun v30 w =>
      YieldP Tryz.prog S (Instr.indexAt 35 v30 (vs.tail.headD undef)) (fun v32 w =>
      YieldP Tryz.prog S (Instr.fieldAt 40 v32 1) (fun v33 w =>
      YieldP Tryz.prog S (Instr.loadAt 23 v33) (fun v34 w =>
      ActP S (fun K w => CallP Tryz.prog 22 #[v26, v34] K w) (fun S v35 w =>
      YieldP Tryz.prog S (Instr.extract v35 0) (fun v36 w =>
      YieldP Tryz.prog S (Instr.extract v35 1) (fun v37 w =>
      LiftP Tryz.prog (Op.unary Go.UnOp.not v37) (fun v39 w =>
      GuardP v39 false (fun K w => K v36 w) (fun v41 w =>
      GuardP v39 false (fun K w => K a2 w) (fun v42 w =>
      GuardP v39 false (fun K w => K a3 w) (fun v43 w =>
      GuardP v39 false (fun K w => CallP Tryz.prog 23 #[v41, v42, v43] K w) (fun v44 w =>
      GuardP v39 false (fun K w => LiftP Tryz.prog (Op.unary Go.UnOp.not v44) K w) (fun v45 w =>
      PickP v39 (Go.Value.bool true) v45 (fun v46 w =>
      CondP v46 (fun w =>
        J_1 [(vs.headD undef)] w) (fun w =>
        DrawP (fun S w =>
      YieldP Tryz.prog S (Instr.fieldAt 53 v5 0) (fun v48 w =>
      YieldP Tryz.prog S (Instr.loadAt 3 v48) (fun v49 w =>
      YieldN Tryz.prog S (nilChk a0) (fun v52 w =>
      YieldP Tryz.prog S (Instr.fieldAt 63 v52 0) (fun v53 w =>
      YieldP Tryz.prog S (Instr.loadAt 35 v53) (fun v54 w =>
      YieldP Tryz.prog S (Instr.indexAt 35 v54 (vs.tail.headD undef)) (fun v56 w =>
      YieldP Tryz.prog S (Instr.fieldAt 40 v56 0) (fun v57 w =>
      YieldP Tryz.prog S (Instr.loadAt 9 v57) (fun v58 w =>
      ActP S (fun K w => CallP Tryz.prog 76 #[v49, v36, v58] K w) (fun S v59 w =>
      YieldP Tryz.prog S (Instr.extract v59 0) (fun v60 w =>
      YieldP Tryz.prog S (Instr.extract v59 1) (fun v61 w =>
      NextP Tryz.prog (builtin Go.Builtin.len #[98] 3 #[false] #[(vs.headD undef)]) (fun v63 w =>
      LiftP Tryz.prog (Instr.build 101 #[]) (fun v65 w =>
      LiftP Tryz.prog (Instr.buildSlice 98 1 #[(0, v65)]) (fun v66 w =>
      NextP Tryz.prog (builtin Go.Builtin.append #[98, 98] 98 #[false, false] #[(vs.headD undef), v66]) (fun v67 w =>
      LoopP (fun J_2 vs_2 w =>   -- [15]
        LiftP Tryz.prog (binS Go.BinOp.gtr 3 (Go.Operand.tmp 68) (Go.Operand.const (Go.Value.int Go.IntKind.i64 0)) (vs_2.headD undef) (Go.Value.int Go.IntKind.i64 0)) (fun v69 w =>
        GuardP v69 true (fun K w => K v67 w) (fun v71 w =>
        GuardP v69 true (fun K w => K (vs_2.headD undef) w) (fun v72 w =>
        GuardP v69 true (fun K w => LiftP Tryz.prog (binS Go.BinOp.sub 3 (Go.Operand.tmp 72) (Go.Operand.const (Go.Value.int Go.IntKind.i64 1)) v72 (Go.Value.int Go.IntKind.i64 1)) K w) (fun v73 w =>
        GuardP v69 true (fun K w => LiftP Tryz.prog (Instr.indexAt 98 v71 v73) K w) (fun v74 w =>
        GuardP v69 true (fun K w => LiftP Tryz.prog (Instr.fieldAt 101 v74 0) K w) (fun v75 w =>
        GuardP v69 true (fun K w => LiftP Tryz.prog (Instr.loadAt 9 v75) K w) (fun v76 w =>
        GuardP v69 true (fun K w => K v60 w) (fun v77 w =>
        GuardP v69 true (fun K w => LiftP Tryz.prog (binS Go.BinOp.gtr 9 (Go.Operand.tmp 76) (Go.Operand.tmp 77) v76 v77) K w) (fun v78 w =>
        PickP v69 v78 (Go.Value.bool false) (fun v79 w =>
        CondP v79 (fun w =>
          LiftP Tryz.prog (binS Go.BinOp.sub 3 (Go.Operand.tmp 83) (Go.Operand.const (Go.Value.int Go.IntKind.i64 1)) (vs_2.headD undef) (Go.Value.int Go.IntKind.i64 1)) (fun v84 w =>
        LiftP Tryz.prog (Instr.indexAt 98 v67 v84) (fun v85 w =>
        LiftP Tryz.prog (Instr.loadAt 101 v85) (fun v86 w =>
        LiftP Tryz.prog (Instr.indexAt 98 v67 (vs_2.headD undef)) (fun v87 w =>
        LiftU Tryz.prog (Instr.storeAt 101 v87 v86) (fun v_ w =>
        LiftP Tryz.prog (binS Go.BinOp.sub 3 (Go.Operand.tmp 88) (Go.Operand.const (Go.Value.int Go.IntKind.i64 1)) (vs_2.headD undef) (Go.Value.int Go.IntKind.i64 1)) (fun v89 w =>
        J_2 [v89] w) w) w) w) w) w) w) (fun w =>
          NextP Tryz.prog (nilChk a0) (fun v94 w =>
      LiftP Tryz.prog (Instr.fieldAt 63 v94 0) (fun v95 w =>
      LiftP Tryz.prog (Instr.loadAt 35 v95) (fun v96 w =>
      LiftP Tryz.prog (Instr.indexAt 35 v96 (vs.tail.headD undef)) (fun v98 w =>
      LiftP Tryz.prog (Instr.loadAt 40 v98) (fun v99 w =>
      LiftP Tryz.prog (Instr.build 101 #[(0, v60), (1, v99)]) (fun v100 w =>
      LiftP Tryz.prog (Instr.indexAt 98 v67 (vs_2.headD undef)) (fun v101 w =>
      LiftU Tryz.prog (Instr.storeAt 101 v101 v100) (fun v__1 w =>
      J_1 [v67] w) w) w) w) w) w) w) w) w) w) w) w) w) w) w) w) w) w) w) w) [v63] w) w) w) w) w) w) w) w) w) w) w) w) w) w) w) w) w) w) w) w) w) w) w) w) w) w) w) w) w) w) w) w) w) w) w) w) (fun vs_1 w =>   -- [9]
    LiftP Tryz.prog (binS Go.BinOp.add 3 (Go.Operand.tmp 23) (Go.Operand.const (Go.Value.int Go.IntKind.i64 1)) (vs.tail.headD undef) (Go.Value.int Go.IntKind.i64 1)) (fun v24 w =>
    J [(vs_1.headD undef), v24] w) w) w) (fun w =>
      R (vs.headD undef) w) w) w) w) w) w) w) [(Go.Value.slice none 0 0), (Go.Value.int Go.IntKind.i64 0)] w) w
theorem S56.calls (a0 a1 a2 a3 : Value) (R : Value → World → Prop) (w : World) (h : S56 a0 a1 a2 a3 R w) : Calls Tryz.prog 56 #[a0, a1, a2, a3] w fun e w' => ∃ v, e = .returned v ∧ R v w' :=
  calls_of_tr (n := 103) (c := bodyOf Tryz.f56) (.two .leaf (.two .leaf (.two (.two .leaf (.one (.loop [9, 10] (.two (.two .leaf (.two .leaf .leaf)) (.join [9] (.one (.two (.draw [(true, 0), (true, 1), (true, 2), (true, 3), (true, 4), (true, 5), (true, 6), (true, 7), (true, 8), (false, 9), (true, 10), (true, 11), (true, 12), (true, 13), (true, 14)]) (.two (.two .leaf (.two .leaf .leaf)) (.two (.draw [(true, 0), (true, 1), (true, 2), (true, 3), (true, 4), (true, 5), (true, 6), (true, 7), (true, 8), (true, 9), (true, 10), (false, 11), (true, 12), (true, 13), (true, 14), (true, 15), (true, 16)]) (.two .leaf (.two .leaf (.two (.one (.loop [15] (.two (.two .leaf (.two .leaf .leaf)) (.one (.two .leaf .leaf))))) .leaf))))))) .leaf))))) (.two .leaf .leaf)))) Tryz.func56 (by kernel_rfl) Tryz.ntmps56 (by kernel_rfl) (by kernel_rfl) [a0, a1, a2, a3] (by kernel_rfl) (of_eq_ (by kernel_rfl) h)

/-- shelfmark/shelfmarkref03.Good -/
def S68 (a0 : Value) (R : Value → World → Prop) (w : World) : Prop :=
  LiftP Tryz.prog (Instr.box 67 a0) (fun v1 w =>
  LiftP Tryz.prog (Instr.fieldAt 67 v1 0) (fun v3 w =>
  LiftP Tryz.prog (Instr.loadAt 3 v3) (fun v4 w =>
  LiftP Tryz.prog (binS Go.BinOp.eql 3 (Go.Operand.tmp 4) (Go.Operand.const (Go.Value.int Go.IntKind.i64 0)) v4 (Go.Value.int Go.IntKind.i64 0)) (fun v5 w =>
  GuardP v5 true (fun K w => LiftP Tryz.prog (Instr.fieldAt 67 v1 1) K w) (fun v7 w =>
  GuardP v5 true (fun K w => LiftP Tryz.prog (Instr.loadAt 3 v7) K w) (fun v8 w =>
  GuardP v5 true (fun K w => LiftP Tryz.prog (binS Go.BinOp.eql 3 (Go.Operand.tmp 8) (Go.Operand.const (Go.Value.int Go.IntKind.i64 0)) v8 (Go.Value.int Go.IntKind.i64 0)) K w) (fun v9 w =>
  PickP v5 v9 (Go.Value.bool false) (fun v10 w =>
  GuardP v10 true (fun K w => LiftP Tryz.prog (Instr.fieldAt 67 v1 2) K w) (fun v12 w =>
  GuardP v10 true (fun K w => LiftP Tryz.prog (Instr.loadAt 9 v12) K w) (fun v13 w =>
  GuardP v10 true (fun K w => LiftP Tryz.prog (binS Go.BinOp.eql 9 (Go.Operand.tmp 13) (Go.Operand.const (Go.Value.string { data := #[] })) v13 (Go.Value.string { data := #[] })) K w) (fun v14 w =>
  PickP v10 v14 (Go.Value.bool false) (fun v15 w =>
  GuardP v15 false (fun K w => LiftP Tryz.prog (Instr.fieldAt 67 v1 0) K w) (fun v17 w =>
  GuardP v15 false (fun K w => LiftP Tryz.prog (Instr.loadAt 3 v17) K w) (fun v18 w =>
  GuardP v15 false (fun K w => LiftP Tryz.prog (binS Go.BinOp.eql 3 (Go.Operand.tmp 18) (Go.Operand.const (Go.Value.int Go.IntKind.i64 1)) v18 (Go.Value.int Go.IntKind.i64 1)) K w) (fun v19 w =>
  GuardP v15 false (fun K w => K v19 w) (fun v20 w =>
  GuardP v20 true (fun K w => LiftP Tryz.prog (Instr.fieldAt 67 v1 2) K w) (fun v21 w =>
  GuardP v20 true (fun K w => LiftP Tryz.prog (Instr.loadAt 9 v21) K w) (fun v22 w =>
  GuardP v20 true (fun K w => LiftP Tryz.prog (binS Go.BinOp.eql 9 (Go.Operand.tmp 22) (Go.Operand.const (Go.Value.string { data := #[] })) v22 (Go.Value.string { data := #[] })) K w) (fun v23 w =>
  GuardP v15 false (fun K w => PickP v20 v23 (Go.Value.bool false) K w) (fun v24 w =>
  PickP v15 (Go.Value.bool true) v24 (fun v25 w =>
  GuardP v25 false (fun K w => LiftP Tryz.prog (Instr.fieldAt 67 v1 0) K w) (fun v27 w =>
  GuardP v25 false (fun K w => LiftP Tryz.prog (Instr.loadAt 3 v27) K w) (fun v28 w =>
  GuardP v25 false (fun K w => LiftP Tryz.prog (binS Go.BinOp.eql 3 (Go.Operand.tmp 28) (Go.Operand.const (Go.Value.int Go.IntKind.i64 2)) v28 (Go.Value.int Go.IntKind.i64 2)) K w) (fun v29 w =>
  GuardP v25 false (fun K w => K v29 w) (fun v30 w =>
  GuardP v30 true (fun K w => LiftP Tryz.prog (Instr.fieldAt 67 v1 1) K w) (fun v31 w =>
  GuardP v30 true (fun K w => LiftP Tryz.prog (Instr.loadAt 3 v31) K w) (fun v32 w =>
  GuardP v30 true (fun K w => LiftP Tryz.prog (binS Go.BinOp.eql 3 (Go.Operand.tmp 32) (Go.Operand.const (Go.Value.int Go.IntKind.i64 0)) v32 (Go.Value.int Go.IntKind.i64 0)) K w) (fun v33 w =>
  GuardP v25 false (fun K w => PickP v30 v33 (Go.Value.bool false) K w) (fun v34 w =>
  GuardP v25 false (fun K w => K v34 w) (fun v35 w =>
  GuardP v35 true (fun K w => LiftP Tryz.prog (Instr.fieldAt 67 v1 2) K w) (fun v36 w =>
  GuardP v35 true (fun K w => LiftP Tryz.prog (Instr.loadAt 9 v36) K w) (fun v37 w =>
  GuardP v35 true (fun K w => NextP Tryz.prog (builtin Go.Builtin.len #[9] 3 #[false] #[v37]) K w) (fun v38 w =>
  GuardP v35 true (fun K w => LiftP Tryz.prog (binS Go.BinOp.leq 3 (Go.Operand.tmp 38) (Go.Operand.const (Go.Value.int Go.IntKind.i64 32)) v38 (Go.Value.int Go.IntKind.i64 32)) K w) (fun v39 w =>
  GuardP v25 false (fun K w => PickP v35 v39 (Go.Value.bool false) K w) (fun v40 w =>
  PickP v25 (Go.Value.bool true) v40 (fun v41 w =>
  R v41 w) w) w) w) w) w) w) w) w) w) w) w) w) w) w) w) w) w) w) w) w) w) w) w) w) w) w) w) w) w) w) w) w) w) w) w) w
theorem S68.calls (a0 : Value) (R : Value → World → Prop) (w : World) (h : S68 a0 R w) : Calls Tryz.prog 68 #[a0] w fun e w' => ∃ v, e = .returned v ∧ R v w' :=
  calls_of_tr (n := 42) (c := bodyOf Tryz.f68) (.two .leaf (.two .leaf .leaf)) Tryz.func68 (by kernel_rfl) Tryz.ntmps68 (by kernel_rfl) (by kernel_rfl) [a0] (by kernel_rfl) (of_eq_ (by kernel_rfl) h)

/-- shelfmark/shelfmarkref03.Below -/
def S75 (a0 a1 : Value) (R : Value → World → Prop) (w : World) : Prop :=
  LiftP Tryz.prog (Instr.box 67 a0) (fun v2 w =>
  LiftP Tryz.prog (Instr.box 67 a1) (fun v3 w =>
  LiftP Tryz.prog (Instr.fieldAt 67 v2 0) (fun v5 w =>
  LiftP Tryz.prog (Instr.loadAt 3 v5) (fun v6 w =>
  LiftP Tryz.prog (Instr.fieldAt 67 v3 0) (fun v7 w =>
  LiftP Tryz.prog (Instr.loadAt 3 v7) (fun v8 w =>
  LiftP Tryz.prog (binS Go.BinOp.neq 3 (Go.Operand.tmp 6) (Go.Operand.tmp 8) v6 v8) (fun v9 w =>
  CondP v9 (fun w =>
    LiftP Tryz.prog (Instr.fieldAt 67 v2 0) (fun v10 w =>
    LiftP Tryz.prog (Instr.loadAt 3 v10) (fun v11 w =>
    LiftP Tryz.prog (Instr.fieldAt 67 v3 0) (fun v12 w =>
    LiftP Tryz.prog (Instr.loadAt 3 v12) (fun v13 w =>
    LiftP Tryz.prog (binS Go.BinOp.lss 3 (Go.Operand.tmp 11) (Go.Operand.tmp 13) v11 v13) (fun v14 w =>
    R v14 w) w) w) w) w) w) (fun w =>
    LiftP Tryz.prog (Instr.fieldAt 67 v2 0) (fun v15 w =>
  LiftP Tryz.prog (Instr.loadAt 3 v15) (fun v16 w =>
  LiftP Tryz.prog (binS Go.BinOp.eql 3 (Go.Operand.tmp 16) (Go.Operand.const (Go.Value.int Go.IntKind.i64 1)) v16 (Go.Value.int Go.IntKind.i64 1)) (fun v17 w =>
  CondP v17 (fun w =>
    LiftP Tryz.prog (Instr.fieldAt 67 v2 1) (fun v18 w =>
    LiftP Tryz.prog (Instr.loadAt 3 v18) (fun v19 w =>
    LiftP Tryz.prog (Instr.fieldAt 67 v3 1) (fun v20 w =>
    LiftP Tryz.prog (Instr.loadAt 3 v20) (fun v21 w =>
    LiftP Tryz.prog (binS Go.BinOp.lss 3 (Go.Operand.tmp 19) (Go.Operand.tmp 21) v19 v21) (fun v22 w =>
    R v22 w) w) w) w) w) w) (fun w =>
    LiftP Tryz.prog (Instr.fieldAt 67 v2 2) (fun v23 w =>
  LiftP Tryz.prog (Instr.loadAt 9 v23) (fun v24 w =>
  LiftP Tryz.prog (Instr.fieldAt 67 v3 2) (fun v25 w =>
  LiftP Tryz.prog (Instr.loadAt 9 v25) (fun v26 w =>
  LiftP Tryz.prog (binS Go.BinOp.lss 9 (Go.Operand.tmp 24) (Go.Operand.tmp 26) v24 v26) (fun v27 w =>
  R v27 w) w) w) w) w) w) w) w) w) w) w) w) w) w) w) w) w) w
theorem S75.calls (a0 a1 : Value) (R : Value → World → Prop) (w : World) (h : S75 a0 a1 R w) : Calls Tryz.prog 75 #[a0, a1] w fun e w' => ∃ v, e = .returned v ∧ R v w' :=
  calls_of_tr (n := 28) (c := bodyOf Tryz.f75) (.two .leaf (.two (.two .leaf (.two (.two .leaf .leaf) .leaf)) (.two (.two .leaf (.two (.two .leaf .leaf) .leaf)) (.two .leaf .leaf)))) Tryz.func75 (by kernel_rfl) Tryz.ntmps75 (by kernel_rfl) (by kernel_rfl) [a0, a1] (by kernel_rfl) (of_eq_ (by kernel_rfl) h)

/-- shelfmark/shelfmarkref04.Entry -/
def S76 (a0 a1 a2 : Value) (R : Value → World → Prop) (w : World) : Prop :=
  LiftP Tryz.prog (binS Go.BinOp.lss 3 (Go.Operand.tmp 10) (Go.Operand.const (Go.Value.int Go.IntKind.i64 1)) a0 (Go.Value.int Go.IntKind.i64 1)) (fun v11 w =>
  GuardP v11 false (fun K w => K a0 w) (fun v13 w =>
  GuardP v11 false (fun K w => LiftP Tryz.prog (binS Go.BinOp.gtr 3 (Go.Operand.tmp 13) (Go.Operand.const (Go.Value.int Go.IntKind.i64 6)) v13 (Go.Value.int Go.IntKind.i64 6)) K w) (fun v14 w =>
  PickP v11 (Go.Value.bool true) v14 (fun v15 w =>
  GuardP v15 false (fun K w => K a1 w) (fun v17 w =>
  GuardP v15 false (fun K w => NextP Tryz.prog (builtin Go.Builtin.len #[22] 3 #[false] #[v17]) K w) (fun v18 w =>
  GuardP v15 false (fun K w => LiftP Tryz.prog (binS Go.BinOp.eql 3 (Go.Operand.tmp 18) (Go.Operand.const (Go.Value.int Go.IntKind.i64 0)) v18 (Go.Value.int Go.IntKind.i64 0)) K w) (fun v19 w =>
  PickP v15 (Go.Value.bool true) v19 (fun v20 w =>
  CondP v20 (fun w =>
    R (.tuple #[(Go.Value.string { data := #[] }), (Go.Value.int Go.IntKind.i64 1)]) w) (fun w =>
    NextP Tryz.prog (builtin Go.Builtin.len #[22] 3 #[false] #[a1]) (fun v22 w =>
  LiftP Tryz.prog (binS Go.BinOp.gtr 3 (Go.Operand.tmp 22) (Go.Operand.const (Go.Value.int Go.IntKind.i64 2)) v22 (Go.Value.int Go.IntKind.i64 2)) (fun v23 w =>
  CondP v23 (fun w =>
    R (.tuple #[(Go.Value.string { data := #[] }), (Go.Value.int Go.IntKind.i64 4)]) w) (fun w =>
    CallP Tryz.prog 91 #[a1] (fun v26 w =>
  LiftP Tryz.prog (Instr.extract v26 0) (fun v27 w =>
  LiftP Tryz.prog (Instr.extract v26 1) (fun v28 w =>
  LiftP Tryz.prog (binS Go.BinOp.neq 29 (Go.Operand.tmp 29) (Go.Operand.const (Go.Value.int Go.IntKind.i64 0)) v28 (Go.Value.int Go.IntKind.i64 0)) (fun v30 w =>
  GuardP v30 false (fun K w => K a1 w) (fun v32 w =>
  GuardP v30 false (fun K w => CallP Tryz.prog 92 #[v32] K w) (fun v33 w =>
  GuardP v30 false (fun K w => LiftP Tryz.prog (Op.unary Go.UnOp.not v33) K w) (fun v34 w =>
  PickP v30 (Go.Value.bool true) v34 (fun v35 w =>
  GuardP v35 false (fun K w => K a2 w) (fun v37 w =>
  GuardP v35 false (fun K w => CallP Tryz.prog 40 #[v37] K w) (fun v38 w =>
  GuardP v35 false (fun K w => LiftP Tryz.prog (Op.unary Go.UnOp.not v38) K w) (fun v39 w =>
  PickP v35 (Go.Value.bool true) v39 (fun v40 w =>
  CondP v40 (fun w =>
    R (.tuple #[(Go.Value.string { data := #[] }), (Go.Value.int Go.IntKind.i64 1)]) w) (fun w =>
    LiftP Tryz.prog (convert 3 5 a0) (fun v42 w =>
  LiftP Tryz.prog (Instr.buildSlice 124 2 #[(0, (Go.Value.int Go.IntKind.u8 0)), (1, v42)]) (fun v43 w =>
  LiftP Tryz.prog (convert 124 9 v43) (fun v44 w =>
  LiftP Tryz.prog (binS Go.BinOp.add 9 (Go.Operand.tmp 44) (Go.Operand.tmp 45) v44 v27) (fun v46 w =>
  LiftP Tryz.prog (binS Go.BinOp.add 9 (Go.Operand.tmp 46) (Go.Operand.const (Go.Value.string { data := #[0] })) v46 (Go.Value.string { data := #[0] })) (fun v47 w =>
  LiftP Tryz.prog (binS Go.BinOp.add 9 (Go.Operand.tmp 47) (Go.Operand.tmp 48) v47 a2) (fun v49 w =>
  R (.tuple #[v49, (Go.Value.int Go.IntKind.i64 0)]) w) w) w) w) w) w) w) w) w) w) w) w) w) w) w) w) w) w) w) w) w) w) w) w) w) w) w) w) w) w) w) w
theorem S76.calls (a0 a1 a2 : Value) (R : Value → World → Prop) (w : World) (h : S76 a0 a1 a2 R w) : Calls Tryz.prog 76 #[a0, a1, a2] w fun e w' => ∃ v, e = .returned v ∧ R v w' :=
  calls_of_tr (n := 50) (c := bodyOf Tryz.f76) (.two .leaf (.two (.two .leaf (.two (.two .leaf .leaf) .leaf)) (.two (.two .leaf (.two (.two .leaf .leaf) .leaf)) (.two .leaf (.two (.two .leaf (.two (.two .leaf .leaf) .leaf)) (.two .leaf .leaf)))))) Tryz.func76 (by kernel_rfl) Tryz.ntmps76 (by kernel_rfl) (by kernel_rfl) [a0, a1, a2] (by kernel_rfl) (of_eq_ (by kernel_rfl) h)

/-- shelfmark/shelfmarkref03.Key -/
def S91 (a0 : Value) (R : Value → World → Prop) (w : World) : Prop :=
  CallP Tryz.prog 43 #[a0] (fun v8 w =>
  LiftP Tryz.prog (binS Go.BinOp.neq 29 (Go.Operand.tmp 9) (Go.Operand.const (Go.Value.int Go.IntKind.i64 0)) v8 (Go.Value.int Go.IntKind.i64 0)) (fun v10 w =>
  CondP v10 (fun w =>
    R (.tuple #[(Go.Value.string { data := #[] }), v8]) w) (fun w =>
    LoopP (fun J vs w =>   -- [5, 6]
    NextP Tryz.prog (builtin Go.Builtin.len #[22] 3 #[false] #[a0]) (fun v14 w =>
    LiftP Tryz.prog (binS Go.BinOp.lss 3 (Go.Operand.tmp 12) (Go.Operand.tmp 14) (vs.tail.headD undef) v14) (fun v15 w =>
    CondP v15 (fun w =>
      LiftP Tryz.prog (Instr.indexAt 22 a0 (vs.tail.headD undef)) (fun v21 w =>
    LiftP Tryz.prog (Instr.loadAt 67 v21) (fun v22 w =>
    CallP Tryz.prog 114 #[v22] (fun v23 w =>
    NextP Tryz.prog (builtin Go.Builtin.append #[124, 124] 124 #[false, false] #[(vs.headD undef), v23]) (fun v24 w =>
    LiftP Tryz.prog (binS Go.BinOp.add 3 (Go.Operand.tmp 16) (Go.Operand.const (Go.Value.int Go.IntKind.i64 1)) (vs.tail.headD undef) (Go.Value.int Go.IntKind.i64 1)) (fun v17 w =>
    J [v24, v17] w) w) w) w) w) w) (fun w =>
      LiftP Tryz.prog (convert 124 9 (vs.headD undef)) (fun v26 w =>
  R (.tuple #[v26, (Go.Value.int Go.IntKind.i64 0)]) w) w) w) w) w) [(Go.Value.slice none 0 0), (Go.Value.int Go.IntKind.i64 0)] w) w) w) w
theorem S91.calls (a0 : Value) (R : Value → World → Prop) (w : World) (h : S91 a0 R w) : Calls Tryz.prog 91 #[a0] w fun e w' => ∃ v, e = .returned v ∧ R v w' :=
  calls_of_tr (n := 27) (c := bodyOf Tryz.f91) (.two .leaf (.two (.two .leaf (.two .leaf (.two (.two .leaf .leaf) .leaf))) (.two .leaf (.two (.two .leaf (.one (.loop [5, 6] (.two (.two .leaf (.two .leaf .leaf)) (.two (.one .leaf) .leaf))))) (.two .leaf .leaf))))) Tryz.func91 (by kernel_rfl) Tryz.ntmps91 (by kernel_rfl) (by kernel_rfl) [a0] (by kernel_rfl) (of_eq_ (by kernel_rfl) h)

/-- shelfmark/shelfmarkref04.full -/
def S92 (a0 : Value) (R : Value → World → Prop) (w : World) : Prop :=
  LoopP (fun J vs w =>   -- [3]
    NextP Tryz.prog (builtin Go.Builtin.len #[22] 3 #[false] #[a0]) (fun v6 w =>
    LiftP Tryz.prog (binS Go.BinOp.lss 3 (Go.Operand.tmp 4) (Go.Operand.tmp 6) (vs.headD undef) v6) (fun v7 w =>
    CondP v7 (fun w =>
      LiftP Tryz.prog (Instr.indexAt 22 a0 (vs.headD undef)) (fun v12 w =>
    LiftP Tryz.prog (Instr.fieldAt 67 v12 0) (fun v13 w =>
    LiftP Tryz.prog (Instr.loadAt 3 v13) (fun v14 w =>
    LiftP Tryz.prog (binS Go.BinOp.eql 3 (Go.Operand.tmp 14) (Go.Operand.const (Go.Value.int Go.IntKind.i64 0)) v14 (Go.Value.int Go.IntKind.i64 0)) (fun v15 w =>
    CondP v15 (fun w =>
      R (Go.Value.bool false) w) (fun w =>
      LiftP Tryz.prog (binS Go.BinOp.add 3 (Go.Operand.tmp 8) (Go.Operand.const (Go.Value.int Go.IntKind.i64 1)) (vs.headD undef) (Go.Value.int Go.IntKind.i64 1)) (fun v9 w =>
    J [v9] w) w) w) w) w) w) w) (fun w =>
      R (Go.Value.bool true) w) w) w) w) [(Go.Value.int Go.IntKind.i64 0)] w
theorem S92.calls (a0 : Value) (R : Value → World → Prop) (w : World) (h : S92 a0 R w) : Calls Tryz.prog 92 #[a0] w fun e w' => ∃ v, e = .returned v ∧ R v w' :=
  calls_of_tr (n := 16) (c := bodyOf Tryz.f92) (.two .leaf (.two (.two .leaf (.one (.loop [3] (.two (.two .leaf (.two .leaf .leaf)) (.two (.one (.two .leaf (.two (.two .leaf .leaf) .leaf))) .leaf))))) (.two .leaf .leaf))) Tryz.func92 (by kernel_rfl) Tryz.ntmps92 (by kernel_rfl) (by kernel_rfl) [a0] (by kernel_rfl) (of_eq_ (by kernel_rfl) h)

/-- shelfmark/shelfmarkref03.put -/
def S114 (a0 : Value) (R : Value → World → Prop) (w : World) : Prop :=
  LiftP Tryz.prog (Instr.box 67 a0) (fun v1 w =>
  LiftP Tryz.prog (Instr.fieldAt 67 v1 0) (fun v8 w =>
  LiftP Tryz.prog (Instr.loadAt 3 v8) (fun v9 w =>
  LiftP Tryz.prog (binS Go.BinOp.eql 3 (Go.Operand.tmp 9) (Go.Operand.const (Go.Value.int Go.IntKind.i64 1)) v9 (Go.Value.int Go.IntKind.i64 1)) (fun v11 w =>
  CondP v11 (fun w =>
    LiftP Tryz.prog (Instr.buildSlice 124 1 #[(0, (Go.Value.int Go.IntKind.u8 2))]) (fun v12 w =>
    LiftP Tryz.prog (Instr.fieldAt 67 v1 1) (fun v13 w =>
    LiftP Tryz.prog (Instr.loadAt 3 v13) (fun v14 w =>
    LiftP Tryz.prog (convert 3 138 v14) (fun v15 w =>
    LiftP Tryz.prog (binS Go.BinOp.add 138 (Go.Operand.tmp 15) (Go.Operand.const (Go.Value.int Go.IntKind.u64 9223372036854775808)) v15 (Go.Value.int Go.IntKind.u64 9223372036854775808)) (fun v16 w =>
    LoopP (fun J vs w =>   -- [3, 5]
      LiftP Tryz.prog (binS Go.BinOp.lss 3 (Go.Operand.tmp 17) (Go.Operand.const (Go.Value.int Go.IntKind.i64 8)) (vs.tail.headD undef) (Go.Value.int Go.IntKind.i64 8)) (fun v18 w =>
      CondP v18 (fun w =>
        LiftP Tryz.prog (binS Go.BinOp.mul 3 (Go.Operand.const (Go.Value.int Go.IntKind.i64 8)) (Go.Operand.tmp 23) (Go.Value.int Go.IntKind.i64 8) (vs.tail.headD undef)) (fun v24 w =>
      LiftP Tryz.prog (binS Go.BinOp.sub 3 (Go.Operand.const (Go.Value.int Go.IntKind.i64 56)) (Go.Operand.tmp 24) (Go.Value.int Go.IntKind.i64 56) v24) (fun v25 w =>
      LiftP Tryz.prog (convert 3 131 v25) (fun v26 w =>
      LiftP Tryz.prog (binS Go.BinOp.shr 138 (Go.Operand.tmp 22) (Go.Operand.tmp 26) v16 v26) (fun v27 w =>
      LiftP Tryz.prog (convert 138 5 v27) (fun v28 w =>
      LiftP Tryz.prog (Instr.buildSlice 124 1 #[(0, v28)]) (fun v29 w =>
      NextP Tryz.prog (builtin Go.Builtin.append #[124, 124] 124 #[false, false] #[(vs.headD undef), v29]) (fun v30 w =>
      LiftP Tryz.prog (binS Go.BinOp.add 3 (Go.Operand.tmp 19) (Go.Operand.const (Go.Value.int Go.IntKind.i64 1)) (vs.tail.headD undef) (Go.Value.int Go.IntKind.i64 1)) (fun v20 w =>
      J [v30, v20] w) w) w) w) w) w) w) w) w) (fun w =>
        R (vs.headD undef) w) w) w) [v12, (Go.Value.int Go.IntKind.i64 0)] w) w) w) w) w) w) (fun w =>
    LiftP Tryz.prog (binS Go.BinOp.eql 3 (Go.Operand.tmp 9) (Go.Operand.const (Go.Value.int Go.IntKind.i64 2)) v9 (Go.Value.int Go.IntKind.i64 2)) (fun v33 w =>
    CondP v33 (fun w =>
      LiftP Tryz.prog (Instr.buildSlice 124 1 #[(0, (Go.Value.int Go.IntKind.u8 3))]) (fun v34 w =>
      LoopP (fun J_1 vs_1 w =>   -- [6, 7]
        LiftP Tryz.prog (Instr.fieldAt 67 v1 2) (fun v36 w =>
        LiftP Tryz.prog (Instr.loadAt 9 v36) (fun v37 w =>
        NextP Tryz.prog (builtin Go.Builtin.len #[9] 3 #[false] #[v37]) (fun v38 w =>
        LiftP Tryz.prog (binS Go.BinOp.lss 3 (Go.Operand.tmp 35) (Go.Operand.tmp 38) (vs_1.tail.headD undef) v38) (fun v39 w =>
        CondP v39 (fun w =>
          JoinP (fun J_2 w =>
          LiftP Tryz.prog (Instr.fieldAt 67 v1 2) (fun v43 w =>
          LiftP Tryz.prog (Instr.loadAt 9 v43) (fun v44 w =>
          LiftP Tryz.prog (Instr.index 9 v44 (vs_1.tail.headD undef)) (fun v46 w =>
          LiftP Tryz.prog (Instr.buildSlice 124 1 #[(0, v46)]) (fun v47 w =>
          NextP Tryz.prog (builtin Go.Builtin.append #[124, 124] 124 #[false, false] #[(vs_1.headD undef), v47]) (fun v48 w =>
          LiftP Tryz.prog (Instr.fieldAt 67 v1 2) (fun v49 w =>
          LiftP Tryz.prog (Instr.loadAt 9 v49) (fun v50 w =>
          LiftP Tryz.prog (Instr.index 9 v50 (vs_1.tail.headD undef)) (fun v52 w =>
          LiftP Tryz.prog (binS Go.BinOp.eql 5 (Go.Operand.tmp 52) (Go.Operand.const (Go.Value.int Go.IntKind.u8 0)) v52 (Go.Value.int Go.IntKind.u8 0)) (fun v53 w =>
          CondP v53 (fun w =>
            LiftP Tryz.prog (Instr.buildSlice 124 1 #[(0, (Go.Value.int Go.IntKind.u8 255))]) (fun v55 w =>
            NextP Tryz.prog (builtin Go.Builtin.append #[124, 124] 124 #[false, false] #[v48, v55]) (fun v56 w =>
            J_2 [v56] w) w) w) (fun w =>
            J_2 [v48] w) w) w) w) w) w) w) w) w) w) w) (fun vs_2 w =>   -- [6]
        LiftP Tryz.prog (binS Go.BinOp.add 3 (Go.Operand.tmp 40) (Go.Operand.const (Go.Value.int Go.IntKind.i64 1)) (vs_1.tail.headD undef) (Go.Value.int Go.IntKind.i64 1)) (fun v41 w =>
        J_1 [(vs_2.headD undef), v41] w) w) w) (fun w =>
          LiftP Tryz.prog (Instr.buildSlice 124 2 #[(0, (Go.Value.int Go.IntKind.u8 0)), (1, (Go.Value.int Go.IntKind.u8 0))]) (fun v58 w =>
      NextP Tryz.prog (builtin Go.Builtin.append #[124, 124] 124 #[false, false] #[(vs_1.headD undef), v58]) (fun v59 w =>
      R v59 w) w) w) w) w) w) w) w) [v34, (Go.Value.int Go.IntKind.i64 0)] w) w) (fun w =>
      LiftP Tryz.prog (Instr.buildSlice 124 1 #[(0, (Go.Value.int Go.IntKind.u8 1))]) (fun v60 w =>
  R v60 w) w) w) w) w) w) w) w) w
theorem S114.calls (a0 : Value) (R : Value → World → Prop) (w : World) (h : S114 a0 R w) : Calls Tryz.prog 114 #[a0] w fun e w' => ∃ v, e = .returned v ∧ R v w' :=
  calls_of_tr (n := 61) (c := bodyOf Tryz.f114) (.two .leaf (.two (.two .leaf (.one (.two .leaf (.two (.two .leaf (.two .leaf (.two (.two .leaf (.one (.loop [3, 5] (.two (.two .leaf (.two .leaf .leaf)) (.two (.one .leaf) .leaf))))) (.two .leaf .leaf)))) (.two .leaf (.two (.two .leaf (.two (.two .leaf (.one (.loop [6, 7] (.two (.two .leaf (.two .leaf .leaf)) (.join [6] (.one (.two .leaf (.two .leaf (.two .leaf .leaf)))) .leaf))))) (.two .leaf .leaf))) .leaf)))))) (.two .leaf .leaf))) Tryz.func114 (by kernel_rfl) Tryz.ntmps114 (by kernel_rfl) (by kernel_rfl) [a0] (by kernel_rfl) (of_eq_ (by kernel_rfl) h)

end Go.Proofs.YtonblppkidpmlaaGreatDoor.E
