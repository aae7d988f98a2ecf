import Derived.Test.YtonblppkidpmlaaGreatDoorM1
import Derived.Test.YtonblppkidpmlaaGreatDoorProg
import Derived.KernelRfl
import Derived.Test.YtonblppkidpmlaaGreatDoorMe
namespace Go.Proofs.YtonblppkidpmlaaGreatDoor.E
open Go
set_option maxRecDepth 100000

/-- shelfmark/shelfmarklaw05.awake -/
def S9 (R : Value → World → Prop) (w : World) : Prop :=
  CallP Tryz.prog 14 #[] (fun v6 w =>
  LiftP Tryz.prog (binS Go.BinOp.eql 33 (Go.Operand.tmp 7) (Go.Operand.const (Go.Value.pointer none)) v6 (Go.Value.pointer none)) (fun v8 w =>
  CondP v8 (fun w =>
    R (Go.Value.bool false) w) (fun w =>
    LiftP Tryz.prog (Instr.build 67 #[(0, (Go.Value.int Go.IntKind.i64 1)), (1, (Go.Value.int Go.IntKind.i64 1))]) (fun v9 w =>
  LiftP Tryz.prog (Instr.buildSlice 23 1 #[(0, v9)]) (fun v10 w =>
  LiftP Tryz.prog (Instr.build 26 #[(0, (Go.Value.int Go.IntKind.i64 1)), (1, (Go.Value.string { data := #[107] })), (3, v10)]) (fun v13 w =>
  CallP Tryz.prog 15 #[v6, v13] (fun v14 w =>
  LiftP Tryz.prog (Instr.alloc 37 true (.tuple #[])) (fun v3 w =>
  LiftU Tryz.prog (Instr.storeAt 37 v3 v14) (fun v_ w =>
  LiftP Tryz.prog (Instr.buildSlice 24 1 #[(0, (Go.Value.int Go.IntKind.i64 0))]) (fun v16 w =>
  LiftP Tryz.prog (Instr.build 26 #[(0, (Go.Value.int Go.IntKind.i64 7)), (6, v16)]) (fun v17 w =>
  CallP Tryz.prog 15 #[v6, v17] (fun v18 w =>
  LiftP Tryz.prog (Instr.alloc 37 true (.tuple #[])) (fun v4 w =>
  LiftU Tryz.prog (Instr.storeAt 37 v4 v18) (fun v__1 w =>
  LiftP Tryz.prog (Instr.build 26 #[(0, (Go.Value.int Go.IntKind.i64 6)), (5, (Go.Value.int Go.IntKind.i64 1)), (9, (Go.Value.int Go.IntKind.i64 5))]) (fun v20 w =>
  CallP Tryz.prog 15 #[v6, v20] (fun v21 w =>
  LiftP Tryz.prog (Instr.alloc 37 true (.tuple #[])) (fun v5 w =>
  LiftU Tryz.prog (Instr.storeAt 37 v5 v21) (fun v__2 w =>
  LiftP Tryz.prog (Instr.fieldAt 37 v3 1) (fun v22 w =>
  LiftP Tryz.prog (Instr.loadAt 4 v22) (fun v23 w =>
  LiftP Tryz.prog (Op.unary Go.UnOp.not v23) (fun v24 w =>
  GuardP v24 true (fun K w => LiftP Tryz.prog (Instr.fieldAt 37 v4 4) K w) (fun v26 w =>
  GuardP v24 true (fun K w => LiftP Tryz.prog (Instr.loadAt 3 v26) K w) (fun v27 w =>
  GuardP v24 true (fun K w => LiftP Tryz.prog (binS Go.BinOp.eql 3 (Go.Operand.tmp 27) (Go.Operand.const (Go.Value.int Go.IntKind.i64 1)) v27 (Go.Value.int Go.IntKind.i64 1)) K w) (fun v28 w =>
  PickP v24 v28 (Go.Value.bool false) (fun v29 w =>
  GuardP v29 true (fun K w => LiftP Tryz.prog (Instr.fieldAt 37 v5 3) K w) (fun v31 w =>
  GuardP v29 true (fun K w => LiftP Tryz.prog (Instr.loadAt 35 v31) K w) (fun v32 w =>
  GuardP v29 true (fun K w => NextP Tryz.prog (builtin Go.Builtin.len #[35] 3 #[false] #[v32]) K w) (fun v33 w =>
  GuardP v29 true (fun K w => LiftP Tryz.prog (binS Go.BinOp.eql 3 (Go.Operand.tmp 33) (Go.Operand.const (Go.Value.int Go.IntKind.i64 1)) v33 (Go.Value.int Go.IntKind.i64 1)) K w) (fun v34 w =>
  PickP v29 v34 (Go.Value.bool false) (fun v35 w =>
  GuardP v35 true (fun K w => LiftP Tryz.prog (Instr.fieldAt 37 v5 3) K w) (fun v37 w =>
  GuardP v35 true (fun K w => LiftP Tryz.prog (Instr.loadAt 35 v37) K w) (fun v38 w =>
  GuardP v35 true (fun K w => LiftP Tryz.prog (Instr.indexAt 35 v38 (Go.Value.int Go.IntKind.i64 0)) K w) (fun v39 w =>
  GuardP v35 true (fun K w => LiftP Tryz.prog (Instr.fieldAt 40 v39 0) K w) (fun v40 w =>
  GuardP v35 true (fun K w => LiftP Tryz.prog (Instr.loadAt 9 v40) K w) (fun v41 w =>
  GuardP v35 true (fun K w => LiftP Tryz.prog (binS Go.BinOp.eql 9 (Go.Operand.tmp 41) (Go.Operand.const (Go.Value.string { data := #[107] })) v41 (Go.Value.string { data := #[107] })) K w) (fun v42 w =>
  PickP v35 v42 (Go.Value.bool false) (fun v43 w =>
  R v43 w) w) w) w) w) w) w) w) w) w) w) w) w) w) w) w) w) w) w) w) w) w) w) w) w) w) w) w) w) w) w) w) w) w) w) w) w) w
theorem S9.calls (R : Value → World → Prop) (w : World) (h : S9 R w) : Calls Tryz.prog 9 #[] w fun e w' => ∃ v, e = .returned v ∧ R v w' :=
  calls_of_tr (n := 44) (c := bodyOf Tryz.f9) (.two .leaf (.two .leaf (.two (.two .leaf (.two (.two .leaf .leaf) .leaf)) (.two .leaf (.two .leaf (.two .leaf (.two .leaf (.two .leaf .leaf)))))))) Tryz.func9 (by kernel_rfl) Tryz.ntmps9 (by kernel_rfl) (by kernel_rfl) [] (by kernel_rfl) (of_eq_ (by kernel_rfl) h)

/-- shelfmark/plain.Check -/
def S11 (a0 : Value) (R : Value → World → Prop) (w : World) : Prop :=
  LiftP Tryz.prog (Instr.box 26 a0) (fun v1 w =>
  DrawP (fun S w =>
  YieldP Tryz.prog S (Instr.fieldAt 26 v1 1) (fun v7 w =>
  YieldP Tryz.prog S (Instr.loadAt 9 v7) (fun v8 w =>
  YieldP Tryz.prog S (Instr.fieldAt 26 v1 5) (fun v11 w =>
  YieldP Tryz.prog S (Instr.loadAt 3 v11) (fun v12 w =>
  YieldP Tryz.prog S (Instr.fieldAt 26 v1 9) (fun v14 w =>
  YieldP Tryz.prog S (Instr.loadAt 3 v14) (fun v15 w =>
  YieldP Tryz.prog S (Instr.fieldAt 26 v1 10) (fun v17 w =>
  YieldP Tryz.prog S (Instr.loadAt 3 v17) (fun v18 w =>
  ActP S (fun K w => CallP Tryz.prog 33 #[v8] K w) (fun S v9 w =>
  ActP S (fun K w => CallP Tryz.prog 32 #[v9] K w) (fun S v10 w =>
  ActP S (fun K w => CallP Tryz.prog 34 #[v12, (Go.Value.int Go.IntKind.i64 1), (Go.Value.int Go.IntKind.i64 6)] K w) (fun S v13 w =>
  ActP S (fun K w => CallP Tryz.prog 34 #[v15, (Go.Value.int Go.IntKind.i64 1), (Go.Value.int Go.IntKind.i64 64)] K w) (fun S v16 w =>
  ActP S (fun K w => CallP Tryz.prog 34 #[v18, (Go.Value.int Go.IntKind.i64 0), (Go.Value.int Go.IntKind.i64 1)] K w) (fun S v19 w =>
  LiftP Tryz.prog (Instr.fieldAt 26 v1 0) (fun v20 w =>
  LiftP Tryz.prog (Instr.loadAt 3 v20) (fun v21 w =>
  LiftP Tryz.prog (binS Go.BinOp.eql 3 (Go.Operand.tmp 21) (Go.Operand.const (Go.Value.int Go.IntKind.i64 1)) v21 (Go.Value.int Go.IntKind.i64 1)) (fun v23 w =>
  CondP v23 (fun w =>
    LiftP Tryz.prog (Instr.fieldAt 26 v1 3) (fun v25 w =>
    LiftP Tryz.prog (Instr.loadAt 23 v25) (fun v26 w =>
    CallP Tryz.prog 35 #[v26] (fun v27 w =>
    LiftP Tryz.prog (Instr.buildSlice 75 2 #[(0, v10), (1, v27)]) (fun v28 w =>
    CallP Tryz.prog 36 #[v28] (fun v29 w =>
    R v29 w) w) w) w) w) w) (fun w =>
    JoinP (fun J w =>
      LiftP Tryz.prog (binS Go.BinOp.eql 3 (Go.Operand.tmp 21) (Go.Operand.const (Go.Value.int Go.IntKind.i64 2)) v21 (Go.Value.int Go.IntKind.i64 2)) (fun v31 w =>
      CondP v31 (fun w =>
        J [v31] w) (fun w =>
        LiftP Tryz.prog (binS Go.BinOp.eql 3 (Go.Operand.tmp 21) (Go.Operand.const (Go.Value.int Go.IntKind.i64 3)) v21 (Go.Value.int Go.IntKind.i64 3)) (fun v32 w =>
        J [v32] w) w) w) w) (fun vs w =>   -- [30]
    CondP (vs.headD undef) (fun w =>
      NextP Tryz.prog (callV v10 #[]) (fun v34 w =>
      R v34 w) w) (fun w =>
      LiftP Tryz.prog (binS Go.BinOp.eql 3 (Go.Operand.tmp 21) (Go.Operand.const (Go.Value.int Go.IntKind.i64 4)) v21 (Go.Value.int Go.IntKind.i64 4)) (fun v36 w =>
      CondP v36 (fun w =>
        DrawP (fun S w =>
        YieldP Tryz.prog S (Instr.fieldAt 26 v1 3) (fun v38 w =>
        YieldP Tryz.prog S (Instr.loadAt 23 v38) (fun v39 w =>
        YieldP Tryz.prog S (Instr.fieldAt 26 v1 4) (fun v41 w =>
        YieldP Tryz.prog S (Instr.loadAt 23 v41) (fun v42 w =>
        ActP S (fun K w => CallP Tryz.prog 35 #[v39] K w) (fun S v40 w =>
        ActP S (fun K w => CallP Tryz.prog 37 #[v42] K w) (fun S v43 w =>
        ActP S (fun K w => LiftP Tryz.prog (Instr.buildSlice 75 3 #[(0, v10), (1, v40), (2, v43)]) K w) (fun S v44 w =>
        ActP S (fun K w => CallP Tryz.prog 36 #[v44] K w) (fun S v45 w =>
        R v45 w) w) w) w) w) w) w) w) w) w) (fun w =>
        LiftP Tryz.prog (binS Go.BinOp.eql 3 (Go.Operand.tmp 21) (Go.Operand.const (Go.Value.int Go.IntKind.i64 5)) v21 (Go.Value.int Go.IntKind.i64 5)) (fun v47 w =>
        CondP v47 (fun w =>
          LiftP Tryz.prog (Instr.fieldAt 26 v1 1) (fun v48 w =>
          LiftP Tryz.prog (Instr.loadAt 9 v48) (fun v49 w =>
          NextP Tryz.prog (builtin Go.Builtin.len #[9] 3 #[false] #[v49]) (fun v50 w =>
          LiftP Tryz.prog (binS Go.BinOp.leq 3 (Go.Operand.tmp 50) (Go.Operand.const (Go.Value.int Go.IntKind.i64 16)) v50 (Go.Value.int Go.IntKind.i64 16)) (fun v51 w =>
          GuardP v51 true (fun K w => LiftP Tryz.prog (Instr.fieldAt 26 v1 2) K w) (fun v53 w =>
          GuardP v51 true (fun K w => LiftP Tryz.prog (Instr.loadAt 9 v53) K w) (fun v54 w =>
          GuardP v51 true (fun K w => NextP Tryz.prog (builtin Go.Builtin.len #[9] 3 #[false] #[v54]) K w) (fun v55 w =>
          GuardP v51 true (fun K w => LiftP Tryz.prog (binS Go.BinOp.leq 3 (Go.Operand.tmp 55) (Go.Operand.const (Go.Value.int Go.IntKind.i64 16)) v55 (Go.Value.int Go.IntKind.i64 16)) K w) (fun v56 w =>
          PickP v51 v56 (Go.Value.bool false) (fun v57 w =>
          CallP Tryz.prog 32 #[v57] (fun v58 w =>
          LiftP Tryz.prog (Instr.buildSlice 75 2 #[(0, v58), (1, v16)]) (fun v60 w =>
          CallP Tryz.prog 36 #[v60] (fun v61 w =>
          R v61 w) w) w) w) w) w) w) w) w) w) w) w) w) (fun w =>
          LiftP Tryz.prog (binS Go.BinOp.eql 3 (Go.Operand.tmp 21) (Go.Operand.const (Go.Value.int Go.IntKind.i64 6)) v21 (Go.Value.int Go.IntKind.i64 6)) (fun v63 w =>
          CondP v63 (fun w =>
            DrawP (fun S w =>
            YieldP Tryz.prog S (Instr.fieldAt 26 v1 7) (fun v65 w =>
            YieldP Tryz.prog S (Instr.loadAt 22 v65) (fun v66 w =>
            YieldP Tryz.prog S (Instr.fieldAt 26 v1 8) (fun v68 w =>
            YieldP Tryz.prog S (Instr.loadAt 22 v68) (fun v69 w =>
            ActP S (fun K w => CallP Tryz.prog 38 #[v66] K w) (fun S v67 w =>
            ActP S (fun K w => CallP Tryz.prog 38 #[v69] K w) (fun S v70 w =>
            ActP S (fun K w => LiftP Tryz.prog (Instr.buildSlice 75 4 #[(0, v13), (1, v67), (2, v70), (3, v16)]) K w) (fun S v72 w =>
            ActP S (fun K w => CallP Tryz.prog 36 #[v72] K w) (fun S v73 w =>
            R v73 w) w) w) w) w) w) w) w) w) w) (fun w =>
            LiftP Tryz.prog (binS Go.BinOp.eql 3 (Go.Operand.tmp 21) (Go.Operand.const (Go.Value.int Go.IntKind.i64 7)) v21 (Go.Value.int Go.IntKind.i64 7)) (fun v75 w =>
            CondP v75 (fun w =>
              LiftP Tryz.prog (Instr.fieldAt 26 v1 6) (fun v76 w =>
              LiftP Tryz.prog (Instr.loadAt 24 v76) (fun v77 w =>
              LiftP Tryz.prog (Instr.build 53 #[(0, (Go.Value.int Go.IntKind.i64 1)), (1, v77)]) (fun v78 w =>
              CallP Tryz.prog 39 #[v78] (fun v79 w =>
              R v79 w) w) w) w) w) (fun w =>
              LiftP Tryz.prog (binS Go.BinOp.eql 3 (Go.Operand.tmp 21) (Go.Operand.const (Go.Value.int Go.IntKind.i64 8)) v21 (Go.Value.int Go.IntKind.i64 8)) (fun v81 w =>
              CondP v81 (fun w =>
                NextP Tryz.prog (callV v13 #[]) (fun v83 w =>
                R v83 w) w) (fun w =>
                JoinP (fun J_1 w =>
                  LiftP Tryz.prog (binS Go.BinOp.eql 3 (Go.Operand.tmp 21) (Go.Operand.const (Go.Value.int Go.IntKind.i64 9)) v21 (Go.Value.int Go.IntKind.i64 9)) (fun v85 w =>
                  CondP v85 (fun w =>
                    J_1 [v85] w) (fun w =>
                    LiftP Tryz.prog (binS Go.BinOp.eql 3 (Go.Operand.tmp 21) (Go.Operand.const (Go.Value.int Go.IntKind.i64 10)) v21 (Go.Value.int Go.IntKind.i64 10)) (fun v86 w =>
                    J_1 [v86] w) w) w) w) (fun vs_1 w =>   -- [84]
                CondP (vs_1.headD undef) (fun w =>
                  LiftP Tryz.prog (Instr.fieldAt 26 v1 1) (fun v88 w =>
                  LiftP Tryz.prog (Instr.loadAt 9 v88) (fun v89 w =>
                  NextP Tryz.prog (builtin Go.Builtin.len #[9] 3 #[false] #[v89]) (fun v90 w =>
                  CallP Tryz.prog 34 #[v90, (Go.Value.int Go.IntKind.i64 1), (Go.Value.int Go.IntKind.i64 100)] (fun v91 w =>
                  LiftP Tryz.prog (Instr.buildSlice 75 2 #[(0, v19), (1, v91)]) (fun v92 w =>
                  CallP Tryz.prog 36 #[v92] (fun v93 w =>
                  R v93 w) w) w) w) w) w) w) (fun w =>
                  LiftP Tryz.prog (binS Go.BinOp.eql 3 (Go.Operand.tmp 21) (Go.Operand.const (Go.Value.int Go.IntKind.i64 11)) v21 (Go.Value.int Go.IntKind.i64 11)) (fun v95 w =>
                  CondP v95 (fun w =>
                    DrawP (fun S w =>
                    YieldP Tryz.prog S (Instr.fieldAt 26 v1 1) (fun v97 w =>
                    YieldP Tryz.prog S (Instr.loadAt 9 v97) (fun v98 w =>
                    YieldN Tryz.prog S (builtin Go.Builtin.len #[9] 3 #[false] #[v98]) (fun v99 w =>
                    YieldP Tryz.prog S (Instr.fieldAt 26 v1 11) (fun v101 w =>
                    YieldP Tryz.prog S (Instr.loadAt 3 v101) (fun v102 w =>
                    ActP S (fun K w => CallP Tryz.prog 34 #[v99, (Go.Value.int Go.IntKind.i64 0), (Go.Value.int Go.IntKind.i64 100)] K w) (fun S v100 w =>
                    ActP S (fun K w => CallP Tryz.prog 34 #[v102, (Go.Value.int Go.IntKind.i64 1), (Go.Value.int Go.IntKind.i64 4)] K w) (fun S v103 w =>
                    ActP S (fun K w => LiftP Tryz.prog (Instr.buildSlice 75 3 #[(0, v19), (1, v100), (2, v103)]) K w) (fun S v104 w =>
                    ActP S (fun K w => CallP Tryz.prog 36 #[v104] K w) (fun S v105 w =>
                    R v105 w) w) w) w) w) w) w) w) w) w) w) (fun w =>
                    LiftP Tryz.prog (binS Go.BinOp.eql 3 (Go.Operand.tmp 21) (Go.Operand.const (Go.Value.int Go.IntKind.i64 12)) v21 (Go.Value.int Go.IntKind.i64 12)) (fun v107 w =>
                    CondP v107 (fun w =>
                      R (Go.Value.int Go.IntKind.i64 0) w) (fun w =>
                      R (Go.Value.int Go.IntKind.i64 1) w) w) w) w) w) w) w) w) w) w) w) w) w) w) w) w) w) w) w) w) w) w) w) w) w) w) w) w) w) w) w) w) w) w) w) w) w) w
theorem S11.calls (a0 : Value) (R : Value → World → Prop) (w : World) (h : S11 a0 R w) : Calls Tryz.prog 11 #[a0] w fun e w' => ∃ v, e = .returned v ∧ R v w' :=
  calls_of_tr (n := 108) (c := bodyOf Tryz.f11) (.two .leaf (.two (.draw [(true, 0), (true, 1), (true, 4), (true, 5), (true, 7), (true, 8), (true, 10), (true, 11), (false, 2), (false, 3), (false, 6), (false, 9), (false, 12), (true, 13), (true, 14), (true, 15), (true, 16)]) (.two (.two .leaf (.one (.two .leaf (.two (.two .leaf .leaf) (.join [30] (.two .leaf (.two .leaf .leaf)) (.two (.two .leaf .leaf) (.two .leaf (.two (.two (.draw [(true, 0), (true, 1), (true, 2), (true, 4), (true, 5), (false, 3), (false, 6), (false, 7), (false, 8), (true, 9)]) .leaf) (.two .leaf (.two (.two .leaf .leaf) (.two .leaf (.two (.two (.draw [(true, 0), (true, 1), (true, 2), (true, 4), (true, 5), (true, 7), (false, 3), (false, 6), (false, 8), (false, 9), (true, 10)]) .leaf) (.two .leaf (.two (.two .leaf .leaf) (.two .leaf (.two (.two .leaf .leaf) (.join [84] (.two .leaf (.two .leaf .leaf)) (.two (.two .leaf .leaf) (.two .leaf (.two (.two (.draw [(true, 0), (true, 1), (true, 2), (true, 3), (true, 5), (true, 6), (false, 4), (false, 7), (false, 8), (false, 9), (true, 10)]) .leaf) (.two .leaf (.two (.two .leaf .leaf) .leaf)))))))))))))))))))))) (.two .leaf .leaf)))) Tryz.func11 (by kernel_rfl) Tryz.ntmps11 (by kernel_rfl) (by kernel_rfl) [a0] (by kernel_rfl) (of_eq_ (by kernel_rfl) h)

/-- shelfmark/plain.New -/
def S14 (R : Value → World → Prop) (w : World) : Prop :=
  LiftP Tryz.prog (Instr.makeMap 80 none) (fun v1 w =>
  LiftP Tryz.prog (Instr.build 82 #[(0, v1)]) (fun v2 w =>
  LiftP Tryz.prog (Instr.box 82 v2) (fun v3 w =>
  R v3 w) w) w) w
theorem S14.calls (R : Value → World → Prop) (w : World) (h : S14 R w) : Calls Tryz.prog 14 #[] w fun e w' => ∃ v, e = .returned v ∧ R v w' :=
  calls_of_tr (n := 4) (c := bodyOf Tryz.f14) (.two .leaf (.two .leaf .leaf)) Tryz.func14 (by kernel_rfl) Tryz.ntmps14 (by kernel_rfl) (by kernel_rfl) [] (by kernel_rfl) (of_eq_ (by kernel_rfl) h)

/-- (*shelfmark/plain.Store).Do -/
def S15 (a0 a1 : Value) (R : Value → World → Prop) (w : World) : Prop :=
  LiftP Tryz.prog (Instr.box 26 a1) (fun v3 w =>
  LiftP Tryz.prog (Instr.alloc 37 true (.tuple #[])) (fun v4 w =>
  LiftP Tryz.prog (Instr.loadAt 26 v3) (fun v8 w =>
  CallP Tryz.prog 11 #[v8] (fun v9 w =>
  LiftP Tryz.prog (binS Go.BinOp.neq 29 (Go.Operand.tmp 10) (Go.Operand.const (Go.Value.int Go.IntKind.i64 0)) v9 (Go.Value.int Go.IntKind.i64 0)) (fun v11 w =>
  CondP v11 (fun w =>
    LiftP Tryz.prog (Instr.build 37 #[(0, v9)]) (fun v13 w =>
    LiftU Tryz.prog (Instr.storeAt 37 v4 v13) (fun v_ w =>
    RetC Tryz.prog v4 37 (fun x => R x w) w) w) w) (fun w =>
    DrawP (fun S w =>
  YieldN Tryz.prog S (nilChk a0) (fun v16 w =>
  YieldP Tryz.prog S (Instr.fieldAt 82 v16 0) (fun v17 w =>
  YieldP Tryz.prog S (Instr.loadAt 80 v17) (fun v18 w =>
  YieldP Tryz.prog S (Instr.fieldAt 26 v3 1) (fun v19 w =>
  YieldP Tryz.prog S (Instr.loadAt 9 v19) (fun v20 w =>
  YieldP Tryz.prog S (Instr.lookup 80 v18 v20 true) (fun v21 w =>
  YieldP Tryz.prog S (Instr.extract v21 0) (fun v22 w =>
  YieldP Tryz.prog S (Instr.extract v21 1) (fun v23 w =>
  JoinP (fun J w =>
    LiftP Tryz.prog (Instr.fieldAt 26 v3 0) (fun v24 w =>
    LiftP Tryz.prog (Instr.loadAt 3 v24) (fun v25 w =>
    LiftP Tryz.prog (binS Go.BinOp.eql 3 (Go.Operand.tmp 25) (Go.Operand.const (Go.Value.int Go.IntKind.i64 1)) v25 (Go.Value.int Go.IntKind.i64 1)) (fun v30 w =>
    CondP v30 (fun w =>
      DrawP (fun S w =>
      YieldN Tryz.prog S (nilChk a0) (fun v32 w =>
      YieldP Tryz.prog S (Instr.fieldAt 82 v32 0) (fun v33 w =>
      YieldP Tryz.prog S (Instr.loadAt 80 v33) (fun v34 w =>
      YieldP Tryz.prog S (Instr.fieldAt 26 v3 1) (fun v35 w =>
      YieldP Tryz.prog S (Instr.loadAt 9 v35) (fun v36 w =>
      YieldP Tryz.prog S (Instr.fieldAt 26 v3 3) (fun v37 w =>
      YieldP Tryz.prog S (Instr.loadAt 23 v37) (fun v38 w =>
      ActP S (fun K w => CallP Tryz.prog 45 #[v38] K w) (fun S v39 w =>
      LiftU Tryz.prog (Instr.mapUpdate 80 v34 v36 v39) (fun v__1 w =>
      J [] w) w) w) w) w) w) w) w) w) w) w) (fun w =>
      LiftP Tryz.prog (binS Go.BinOp.eql 3 (Go.Operand.tmp 25) (Go.Operand.const (Go.Value.int Go.IntKind.i64 2)) v25 (Go.Value.int Go.IntKind.i64 2)) (fun v41 w =>
      CondP v41 (fun w =>
        DrawP (fun S w =>
        YieldN Tryz.prog S (nilChk a0) (fun v43 w =>
        YieldP Tryz.prog S (Instr.fieldAt 82 v43 0) (fun v44 w =>
        YieldP Tryz.prog S (Instr.loadAt 80 v44) (fun v45 w =>
        YieldP Tryz.prog S (Instr.fieldAt 26 v3 1) (fun v46 w =>
        YieldP Tryz.prog S (Instr.loadAt 9 v46) (fun v47 w =>
        NextP Tryz.prog (builtin Go.Builtin.delete #[80, 9] 0 #[false, false] #[v45, v47]) (fun v__2 w =>
        J [] w) w) w) w) w) w) w) w) (fun w =>
        LiftP Tryz.prog (binS Go.BinOp.eql 3 (Go.Operand.tmp 25) (Go.Operand.const (Go.Value.int Go.IntKind.i64 3)) v25 (Go.Value.int Go.IntKind.i64 3)) (fun v49 w =>
        CondP v49 (fun w =>
          CallP Tryz.prog 45 #[v22] (fun v52 w =>
          LiftP Tryz.prog (Instr.build 37 #[(1, v23), (2, v52)]) (fun v53 w =>
          LiftU Tryz.prog (Instr.storeAt 37 v4 v53) (fun v__3 w =>
          RetC Tryz.prog v4 37 (fun x_1 => R x_1 w) w) w) w) w) (fun w =>
          LiftP Tryz.prog (binS Go.BinOp.eql 3 (Go.Operand.tmp 25) (Go.Operand.const (Go.Value.int Go.IntKind.i64 4)) v25 (Go.Value.int Go.IntKind.i64 4)) (fun v55 w =>
          CondP v55 (fun w =>
            LiftP Tryz.prog (Instr.fieldAt 26 v3 4) (fun v57 w =>
            LiftP Tryz.prog (Instr.loadAt 23 v57) (fun v58 w =>
            CallP Tryz.prog 46 #[v22, v58] (fun v59 w =>
            LiftP Tryz.prog (Op.unary Go.UnOp.not v59) (fun v60 w =>
            CondP v60 (fun w =>
              CallP Tryz.prog 45 #[v22] (fun v63 w =>
              LiftP Tryz.prog (Instr.build 37 #[(0, (Go.Value.int Go.IntKind.i64 9)), (1, v23), (2, v63)]) (fun v64 w =>
              LiftU Tryz.prog (Instr.storeAt 37 v4 v64) (fun v__4 w =>
              RetC Tryz.prog v4 37 (fun x_2 => R x_2 w) w) w) w) w) (fun w =>
              DrawP (fun S w =>
            YieldN Tryz.prog S (nilChk a0) (fun v66 w =>
            YieldP Tryz.prog S (Instr.fieldAt 82 v66 0) (fun v67 w =>
            YieldP Tryz.prog S (Instr.loadAt 80 v67) (fun v68 w =>
            YieldP Tryz.prog S (Instr.fieldAt 26 v3 1) (fun v69 w =>
            YieldP Tryz.prog S (Instr.loadAt 9 v69) (fun v70 w =>
            YieldP Tryz.prog S (Instr.fieldAt 26 v3 3) (fun v71 w =>
            YieldP Tryz.prog S (Instr.loadAt 23 v71) (fun v72 w =>
            ActP S (fun K w => CallP Tryz.prog 45 #[v72] K w) (fun S v73 w =>
            LiftU Tryz.prog (Instr.mapUpdate 80 v68 v70 v73) (fun v__5 w =>
            J [] w) w) w) w) w) w) w) w) w) w) w) w) w) w) w) w) (fun w =>
            LiftP Tryz.prog (Instr.loadAt 26 v3) (fun v27 w =>
            CallP Tryz.prog 47 #[a0, v27] (fun v28 w =>
            LiftU Tryz.prog (Instr.storeAt 37 v4 v28) (fun v__6 w =>
            RetC Tryz.prog v4 37 (fun x_3 => R x_3 w) w) w) w) w) w) w) w) w) w) w) w) w) w) w) (fun vs w =>   -- []
  LiftP Tryz.prog (Instr.build 37 #[(1, v23)]) (fun v75 w =>
  LiftU Tryz.prog (Instr.storeAt 37 v4 v75) (fun v__7 w =>
  RetC Tryz.prog v4 37 (fun x_4 => R x_4 w) w) w) w) w) w) w) w) w) w) w) w) w) w) w) w) w) w) w) w
theorem S15.calls (a0 a1 : Value) (R : Value → World → Prop) (w : World) (h : S15 a0 a1 R w) : Calls Tryz.prog 15 #[a0, a1] w fun e w' => ∃ v, e = .returned v ∧ R v w' :=
  calls_of_tr (n := 76) (c := bodyOf Tryz.f15) (.two .leaf (.two (.two .leaf (.two .leaf (.two (.two .leaf .leaf) .leaf))) (.two (.draw [(true, 0), (true, 1), (true, 2), (true, 3), (true, 4), (true, 5), (true, 6), (true, 7), (true, 8), (true, 9), (true, 10), (true, 11)]) (.join [] (.two .leaf (.one (.two .leaf (.two (.drawL [(true, 0), (true, 1), (true, 2), (true, 3), (true, 4), (true, 5), (true, 6), (true, 7), (false, 8)] 9) (.two .leaf (.two (.drawL [(true, 0), (true, 1), (true, 2), (true, 3), (true, 4), (true, 5)] 6) (.two .leaf (.two (.two .leaf .leaf) (.two .leaf (.two (.two (.two .leaf (.two (.two .leaf .leaf) .leaf)) (.drawL [(true, 0), (true, 1), (true, 2), (true, 3), (true, 4), (true, 5), (true, 6), (true, 7), (false, 8)] 9)) (.two .leaf .leaf))))))))))) (.two .leaf .leaf))))) Tryz.func15 (by kernel_rfl) Tryz.ntmps15 (by kernel_rfl) (by kernel_rfl) [a0, a1] (by kernel_rfl) (of_eq_ (by kernel_rfl) h)

/-- (*shelfmark/plain.Store).Rows -/
def S20 (a0 : Value) (R : Value → World → Prop) (w : World) : Prop :=
  NextP Tryz.prog (nilChk a0) (fun v7 w =>
  LiftP Tryz.prog (Instr.fieldAt 82 v7 0) (fun v8 w =>
  LiftP Tryz.prog (Instr.loadAt 80 v8) (fun v9 w =>
  CallP Tryz.prog 49 #[v9] (fun v10 w =>
  CallP Tryz.prog 48 #[v10] (fun v11 w =>
  NextP Tryz.prog (builtin Go.Builtin.len #[59] 3 #[false] #[v11]) (fun v12 w =>
  LoopP (fun J vs w =>   -- [3, 13]
    LiftP Tryz.prog (binS Go.BinOp.lss 3 (Go.Operand.tmp 13) (Go.Operand.tmp 12) (vs.tail.headD undef) v12) (fun v14 w =>
    CondP v14 (fun w =>
      LiftP Tryz.prog (Instr.indexAt 59 v11 (vs.tail.headD undef)) (fun v15 w =>
    LiftP Tryz.prog (Instr.loadAt 9 v15) (fun v16 w =>
    NextP Tryz.prog (nilChk a0) (fun v20 w =>
    LiftP Tryz.prog (Instr.fieldAt 82 v20 0) (fun v21 w =>
    LiftP Tryz.prog (Instr.loadAt 80 v21) (fun v22 w =>
    LiftP Tryz.prog (Instr.lookup 80 v22 v16 false) (fun v24 w =>
    CallP Tryz.prog 45 #[v24] (fun v25 w =>
    LiftP Tryz.prog (Instr.build 40 #[(0, v16), (1, v25)]) (fun v26 w =>
    LiftP Tryz.prog (Instr.buildSlice 35 1 #[(0, v26)]) (fun v27 w =>
    NextP Tryz.prog (builtin Go.Builtin.append #[35, 35] 35 #[false, false] #[(vs.headD undef), v27]) (fun v28 w =>
    LiftP Tryz.prog (binS Go.BinOp.add 3 (Go.Operand.tmp 13) (Go.Operand.const (Go.Value.int Go.IntKind.i64 1)) (vs.tail.headD undef) (Go.Value.int Go.IntKind.i64 1)) (fun v29 w =>
    J [v28, v29] w) w) w) w) w) w) w) w) w) w) w) w) (fun w =>
      R (vs.headD undef) w) w) w) [(Go.Value.slice none 0 0), (Go.Value.int Go.IntKind.i64 0)] w) w) w) w) w) w) w
theorem S20.calls (a0 : Value) (R : Value → World → Prop) (w : World) (h : S20 a0 R w) : Calls Tryz.prog 20 #[a0] w fun e w' => ∃ v, e = .returned v ∧ R v w' :=
  calls_of_tr (n := 31) (c := bodyOf Tryz.f20) (.two .leaf (.two .leaf (.two (.two .leaf (.one (.loop [3, 13] (.two .leaf (.two (.two .leaf .leaf) (.two (.one (.two .leaf .leaf)) .leaf)))))) (.two .leaf .leaf)))) Tryz.func20 (by kernel_rfl) Tryz.ntmps20 (by kernel_rfl) (by kernel_rfl) [a0] (by kernel_rfl) (of_eq_ (by kernel_rfl) h)

/-- (*shelfmark/plain.Store).Indexes -/
def S21 (a0 : Value) (R : Value → World → Prop) (w : World) : Prop :=
  NextP Tryz.prog (nilChk a0) (fun v7 w =>
  LiftP Tryz.prog (Instr.fieldAt 82 v7 1) (fun v8 w =>
  LiftP Tryz.prog (Instr.loadAt 48 v8) (fun v9 w =>
  NextP Tryz.prog (builtin Go.Builtin.len #[48] 3 #[false] #[v9]) (fun v10 w =>
  LoopP (fun J vs w =>   -- [3, 11]
    LiftP Tryz.prog (binS Go.BinOp.lss 3 (Go.Operand.tmp 11) (Go.Operand.tmp 10) (vs.tail.headD undef) v10) (fun v12 w =>
    CondP v12 (fun w =>
      JoinP (fun J_1 w =>
      LiftP Tryz.prog (Instr.indexAt 48 v9 (vs.tail.headD undef)) (fun v13 w =>
      LiftP Tryz.prog (Instr.loadAt 53 v13) (fun v14 w =>
      LiftP Tryz.prog (Instr.alloc 53 true (.tuple #[])) (fun v5 w =>
      LiftU Tryz.prog (Instr.storeAt 53 v5 v14) (fun v_ w =>
      LiftP Tryz.prog (Instr.fieldAt 53 v5 1) (fun v15 w =>
      LiftP Tryz.prog (Instr.loadAt 24 v15) (fun v16 w =>
      NextP Tryz.prog (builtin Go.Builtin.len #[24] 3 #[false] #[v16]) (fun v17 w =>
      LiftP Tryz.prog (binS Go.BinOp.gtr 3 (Go.Operand.tmp 17) (Go.Operand.const (Go.Value.int Go.IntKind.i64 0)) v17 (Go.Value.int Go.IntKind.i64 0)) (fun v18 w =>
      CondP v18 (fun w =>
        DrawP (fun S w =>
        YieldP Tryz.prog S (Instr.fieldAt 53 v5 0) (fun v20 w =>
        YieldP Tryz.prog S (Instr.loadAt 3 v20) (fun v21 w =>
        YieldP Tryz.prog S (Instr.fieldAt 53 v5 1) (fun v22 w =>
        YieldP Tryz.prog S (Instr.loadAt 24 v22) (fun v23 w =>
        ActP S (fun K w => CallP Tryz.prog 50 #[v23] K w) (fun S v24 w =>
        YieldP Tryz.prog S (Instr.build 53 #[(0, v21), (1, v24)]) (fun v25 w =>
        ActP S (fun K w => LiftP Tryz.prog (Instr.buildSlice 48 1 #[(0, v25)]) K w) (fun S v26 w =>
        ActP S (fun K w => NextP Tryz.prog (builtin Go.Builtin.append #[48, 48] 48 #[false, false] #[(vs.headD undef), v26]) K w) (fun S v27 w =>
        J_1 [v27] w) w) w) w) w) w) w) w) w) w) (fun w =>
        J_1 [(vs.headD undef)] w) w) w) w) w) w) w) w) w) w) (fun vs_1 w =>   -- [3]
    LiftP Tryz.prog (binS Go.BinOp.add 3 (Go.Operand.tmp 11) (Go.Operand.const (Go.Value.int Go.IntKind.i64 1)) (vs.tail.headD undef) (Go.Value.int Go.IntKind.i64 1)) (fun v28 w =>
    J [(vs_1.headD undef), v28] w) w) w) (fun w =>
      R (vs.headD undef) w) w) w) [(Go.Value.slice none 0 0), (Go.Value.int Go.IntKind.i64 0)] w) w) w) w) w
theorem S21.calls (a0 : Value) (R : Value → World → Prop) (w : World) (h : S21 a0 R w) : Calls Tryz.prog 21 #[a0] w fun e w' => ∃ v, e = .returned v ∧ R v w' :=
  calls_of_tr (n := 30) (c := bodyOf Tryz.f21) (.two .leaf (.two .leaf (.two (.two .leaf (.one (.loop [3, 11] (.two .leaf (.two (.two .leaf .leaf) (.join [3] (.one (.two .leaf (.two .leaf (.two (.draw [(true, 0), (true, 1), (true, 2), (true, 3), (true, 4), (false, 5), (true, 6), (false, 7), (false, 8), (true, 9)]) .leaf)))) .leaf)))))) (.two .leaf .leaf)))) Tryz.func21 (by kernel_rfl) Tryz.ntmps21 (by kernel_rfl) (by kernel_rfl) [a0] (by kernel_rfl) (of_eq_ (by kernel_rfl) h)

/-- (*shelfmark/plain.Store).Shown -/
def S27 (a0 a1 : Value) (R : Value → World → Prop) (w : World) : Prop :=
  JoinP (fun J w =>
    CallP Tryz.prog 57 #[a0, a1] (fun v13 w =>
    LiftP Tryz.prog (Instr.extract v13 0) (fun v14 w =>
    LiftP Tryz.prog (Instr.extract v13 1) (fun v15 w =>
    LiftP Tryz.prog (Instr.alloc 53 true (.tuple #[])) (fun v6 w =>
    LiftU Tryz.prog (Instr.storeAt 53 v6 v14) (fun v_ w =>
    CondP v15 (fun w =>
      LiftP Tryz.prog (Instr.loadAt 53 v6) (fun v18 w =>
      CallP Tryz.prog 58 #[a0, v18, (Go.Value.slice none 0 0), (Go.Value.slice none 0 0)] (fun v19 w =>
      NextP Tryz.prog (builtin Go.Builtin.len #[102] 3 #[false] #[v19]) (fun v20 w =>
      LoopP (fun J_1 vs_1 w =>   -- [5, 21]
        LiftP Tryz.prog (binS Go.BinOp.lss 3 (Go.Operand.tmp 21) (Go.Operand.tmp 20) (vs_1.tail.headD undef) v20) (fun v22 w =>
        CondP v22 (fun w =>
          LiftP Tryz.prog (Instr.indexAt 102 v19 (vs_1.tail.headD undef)) (fun v23 w =>
        LiftP Tryz.prog (Instr.loadAt 105 v23) (fun v24 w =>
        LiftP Tryz.prog (Instr.alloc 105 true (.tuple #[])) (fun v9 w =>
        LiftU Tryz.prog (Instr.storeAt 105 v9 v24) (fun v__1 w =>
        LiftP Tryz.prog (Instr.fieldAt 105 v9 0) (fun v26 w =>
        LiftP Tryz.prog (Instr.loadAt 9 v26) (fun v27 w =>
        LiftP Tryz.prog (Instr.buildSlice 59 1 #[(0, v27)]) (fun v28 w =>
        NextP Tryz.prog (builtin Go.Builtin.append #[59, 59] 59 #[false, false] #[(vs_1.headD undef), v28]) (fun v29 w =>
        LiftP Tryz.prog (binS Go.BinOp.add 3 (Go.Operand.tmp 21) (Go.Operand.const (Go.Value.int Go.IntKind.i64 1)) (vs_1.tail.headD undef) (Go.Value.int Go.IntKind.i64 1)) (fun v30 w =>
        J_1 [v29, v30] w) w) w) w) w) w) w) w) w) w) (fun w =>
          J [(vs_1.headD undef)] w) w) w) [(Go.Value.slice none 0 0), (Go.Value.int Go.IntKind.i64 0)] w) w) w) w) (fun w =>
      J [(Go.Value.slice none 0 0)] w) w) w) w) w) w) w) (fun vs w =>   -- [5]
  R (vs.headD undef) w) w
theorem S27.calls (a0 a1 : Value) (R : Value → World → Prop) (w : World) (h : S27 a0 a1 R w) : Calls Tryz.prog 27 #[a0, a1] w fun e w' => ∃ v, e = .returned v ∧ R v w' :=
  calls_of_tr (n := 32) (c := bodyOf Tryz.f27) (.two .leaf (.two .leaf (.join [5] (.two .leaf (.two .leaf (.two (.two .leaf (.one (.loop [5, 21] (.two .leaf (.two (.two .leaf .leaf) (.two (.one (.two .leaf .leaf)) .leaf)))))) .leaf))) (.two .leaf .leaf)))) Tryz.func27 (by kernel_rfl) Tryz.ntmps27 (by kernel_rfl) (by kernel_rfl) [a0, a1] (by kernel_rfl) (of_eq_ (by kernel_rfl) h)

/-- shelfmark/plain.must -/
def S32 (a0 : Value) (R : Value → World → Prop) (w : World) : Prop :=
  LiftP Tryz.prog (Instr.box 4 a0) (fun v1 w =>
  LiftP Tryz.prog (Instr.makeFunc (Go.Fn.func 59) #[] #[v1]) (fun v3 w =>
  R v3 w) w) w
theorem S32.calls (a0 : Value) (R : Value → World → Prop) (w : World) (h : S32 a0 R w) : Calls Tryz.prog 32 #[a0] w fun e w' => ∃ v, e = .returned v ∧ R v w' :=
  calls_of_tr (n := 4) (c := bodyOf Tryz.f32) (.two .leaf (.two .leaf .leaf)) Tryz.func32 (by kernel_rfl) Tryz.ntmps32 (by kernel_rfl) (by kernel_rfl) [a0] (by kernel_rfl) (of_eq_ (by kernel_rfl) h)

/-- shelfmark/plain.within -/
def S34 (a0 a1 a2 : Value) (R : Value → World → Prop) (w : World) : Prop :=
  LiftP Tryz.prog (binS Go.BinOp.geq 3 (Go.Operand.tmp 7) (Go.Operand.tmp 8) a0 a1) (fun v9 w =>
  GuardP v9 true (fun K w => K a0 w) (fun v11 w =>
  GuardP v9 true (fun K w => K a2 w) (fun v12 w =>
  GuardP v9 true (fun K w => LiftP Tryz.prog (binS Go.BinOp.leq 3 (Go.Operand.tmp 11) (Go.Operand.tmp 12) v11 v12) K w) (fun v13 w =>
  PickP v9 v13 (Go.Value.bool false) (fun v14 w =>
  CallP Tryz.prog 32 #[v14] (fun v15 w =>
  R v15 w) w) w) w) w) w) w
theorem S34.calls (a0 a1 a2 : Value) (R : Value → World → Prop) (w : World) (h : S34 a0 a1 a2 R w) : Calls Tryz.prog 34 #[a0, a1, a2] w fun e w' => ∃ v, e = .returned v ∧ R v w' :=
  calls_of_tr (n := 16) (c := bodyOf Tryz.f34) (.two .leaf (.two .leaf .leaf)) Tryz.func34 (by kernel_rfl) Tryz.ntmps34 (by kernel_rfl) (by kernel_rfl) [a0, a1, a2] (by kernel_rfl) (of_eq_ (by kernel_rfl) h)

/-- shelfmark/plain.rec -/
def S35 (a0 : Value) (R : Value → World → Prop) (w : World) : Prop :=
  LiftP Tryz.prog (Instr.box 23 a0) (fun v1 w =>
  LiftP Tryz.prog (Instr.makeFunc (Go.Fn.func 60) #[] #[v1]) (fun v3 w =>
  R v3 w) w) w
theorem S35.calls (a0 : Value) (R : Value → World → Prop) (w : World) (h : S35 a0 R w) : Calls Tryz.prog 35 #[a0] w fun e w' => ∃ v, e = .returned v ∧ R v w' :=
  calls_of_tr (n := 4) (c := bodyOf Tryz.f35) (.two .leaf (.two .leaf .leaf)) Tryz.func35 (by kernel_rfl) Tryz.ntmps35 (by kernel_rfl) (by kernel_rfl) [a0] (by kernel_rfl) (of_eq_ (by kernel_rfl) h)

/-- (shelfmark/plain.asks).first -/
def S36 (a0 : Value) (R : Value → World → Prop) (w : World) : Prop :=
  NextP Tryz.prog (builtin Go.Builtin.len #[75] 3 #[false] #[a0]) (fun v7 w =>
  LoopP (fun J vs w =>   -- [8]
    LiftP Tryz.prog (binS Go.BinOp.lss 3 (Go.Operand.tmp 8) (Go.Operand.tmp 7) (vs.headD undef) v7) (fun v9 w =>
    CondP v9 (fun w =>
      LiftP Tryz.prog (Instr.indexAt 75 a0 (vs.headD undef)) (fun v10 w =>
    LiftP Tryz.prog (Instr.loadAt 69 v10) (fun v11 w =>
    NextP Tryz.prog (callV v11 #[]) (fun v13 w =>
    LiftP Tryz.prog (binS Go.BinOp.neq 29 (Go.Operand.tmp 14) (Go.Operand.const (Go.Value.int Go.IntKind.i64 0)) v13 (Go.Value.int Go.IntKind.i64 0)) (fun v15 w =>
    CondP v15 (fun w =>
      R v13 w) (fun w =>
      LiftP Tryz.prog (binS Go.BinOp.add 3 (Go.Operand.tmp 8) (Go.Operand.const (Go.Value.int Go.IntKind.i64 1)) (vs.headD undef) (Go.Value.int Go.IntKind.i64 1)) (fun v17 w =>
    J [v17] w) w) w) w) w) w) w) (fun w =>
      R (Go.Value.int Go.IntKind.i64 0) w) w) w) [(Go.Value.int Go.IntKind.i64 0)] w) w
theorem S36.calls (a0 : Value) (R : Value → World → Prop) (w : World) (h : S36 a0 R w) : Calls Tryz.prog 36 #[a0] w fun e w' => ∃ v, e = .returned v ∧ R v w' :=
  calls_of_tr (n := 18) (c := bodyOf Tryz.f36) (.two .leaf (.two (.two .leaf (.one (.loop [8] (.two .leaf (.two (.two .leaf .leaf) (.two (.one (.two .leaf (.two .leaf (.two .leaf (.two (.two .leaf .leaf) .leaf))))) .leaf)))))) (.two .leaf .leaf))) Tryz.func36 (by kernel_rfl) Tryz.ntmps36 (by kernel_rfl) (by kernel_rfl) [a0] (by kernel_rfl) (of_eq_ (by kernel_rfl) h)

/-- shelfmark/plain.old -/
def S37 (a0 : Value) (R : Value → World → Prop) (w : World) : Prop :=
  LiftP Tryz.prog (Instr.box 23 a0) (fun v1 w =>
  LiftP Tryz.prog (Instr.makeFunc (Go.Fn.func 62) #[] #[v1]) (fun v3 w =>
  R v3 w) w) w
theorem S37.calls (a0 : Value) (R : Value → World → Prop) (w : World) (h : S37 a0 R w) : Calls Tryz.prog 37 #[a0] w fun e w' => ∃ v, e = .returned v ∧ R v w' :=
  calls_of_tr (n := 4) (c := bodyOf Tryz.f37) (.two .leaf (.two .leaf .leaf)) Tryz.func37 (by kernel_rfl) Tryz.ntmps37 (by kernel_rfl) (by kernel_rfl) [a0] (by kernel_rfl) (of_eq_ (by kernel_rfl) h)

/-- shelfmark/plain.vals -/
def S38 (a0 : Value) (R : Value → World → Prop) (w : World) : Prop :=
  LiftP Tryz.prog (Instr.box 22 a0) (fun v1 w =>
  LiftP Tryz.prog (Instr.makeFunc (Go.Fn.func 63) #[] #[v1]) (fun v3 w =>
  R v3 w) w) w
theorem S38.calls (a0 : Value) (R : Value → World → Prop) (w : World) (h : S38 a0 R w) : Calls Tryz.prog 38 #[a0] w fun e w' => ∃ v, e = .returned v ∧ R v w' :=
  calls_of_tr (n := 4) (c := bodyOf Tryz.f38) (.two .leaf (.two .leaf .leaf)) Tryz.func38 (by kernel_rfl) Tryz.ntmps38 (by kernel_rfl) (by kernel_rfl) [a0] (by kernel_rfl) (of_eq_ (by kernel_rfl) h)

/-- (*shelfmark/plain.Store).other -/
def S47 (a0 a1 : Value) (R : Value → World → Prop) (w : World) : Prop :=
  LiftP Tryz.prog (Instr.box 26 a1) (fun v3 w =>
  LiftP Tryz.prog (Instr.alloc 37 true (.tuple #[])) (fun v4 w =>
  LiftP Tryz.prog (Instr.fieldAt 26 v3 5) (fun v13 w =>
  LiftP Tryz.prog (Instr.loadAt 3 v13) (fun v14 w =>
  CallP Tryz.prog 57 #[a0, v14] (fun v15 w =>
  LiftP Tryz.prog (Instr.extract v15 0) (fun v16 w =>
  LiftP Tryz.prog (Instr.extract v15 1) (fun v17 w =>
  LiftP Tryz.prog (Instr.alloc 53 true (.tuple #[])) (fun v5 w =>
  LiftU Tryz.prog (Instr.storeAt 53 v5 v16) (fun v_ w =>
  JoinP (fun J w =>
    LiftP Tryz.prog (Instr.fieldAt 26 v3 0) (fun v18 w =>
    LiftP Tryz.prog (Instr.loadAt 3 v18) (fun v19 w =>
    LiftP Tryz.prog (binS Go.BinOp.eql 3 (Go.Operand.tmp 19) (Go.Operand.const (Go.Value.int Go.IntKind.i64 5)) v19 (Go.Value.int Go.IntKind.i64 5)) (fun v21 w =>
    CondP v21 (fun w =>
      CallP Tryz.prog 20 #[a0] (fun v23 w =>
      LiftP Tryz.prog (Instr.makeFunc (Go.Fn.func 70) #[] #[v3]) (fun v24 w =>
      CallP Tryz.prog 69 #[v23, v24] (fun v25 w =>
      NextP Tryz.prog (builtin Go.Builtin.len #[35] 3 #[false] #[v25]) (fun v28 w =>
      LiftP Tryz.prog (Instr.fieldAt 26 v3 9) (fun v29 w =>
      LiftP Tryz.prog (Instr.loadAt 3 v29) (fun v30 w =>
      NextP Tryz.prog (builtin Go.Builtin.min #[3, 3] 3 #[false, false] #[v28, v30]) (fun v31 w =>
      LiftP Tryz.prog (Instr.sliceAt 35 v25 none (some v31) none) (fun v32 w =>
      LiftP Tryz.prog (Instr.build 37 #[(3, v32)]) (fun v33 w =>
      LiftU Tryz.prog (Instr.storeAt 37 v4 v33) (fun v__1 w =>
      RetC Tryz.prog v4 37 (fun x => R x w) w) w) w) w) w) w) w) w) w) w) w) (fun w =>
      LiftP Tryz.prog (binS Go.BinOp.eql 3 (Go.Operand.tmp 19) (Go.Operand.const (Go.Value.int Go.IntKind.i64 6)) v19 (Go.Value.int Go.IntKind.i64 6)) (fun v35 w =>
      CondP v35 (fun w =>
        LiftP Tryz.prog (Op.unary Go.UnOp.not v17) (fun v37 w =>
        CondP v37 (fun w =>
          LiftP Tryz.prog (Instr.build 37 #[(0, (Go.Value.int Go.IntKind.i64 7))]) (fun v38 w =>
          LiftU Tryz.prog (Instr.storeAt 37 v4 v38) (fun v__2 w =>
          RetC Tryz.prog v4 37 (fun x_1 => R x_1 w) w) w) w) (fun w =>
          LiftP Tryz.prog (Instr.loadAt 53 v5) (fun v40 w =>
        LiftP Tryz.prog (Instr.fieldAt 26 v3 7) (fun v41 w =>
        LiftP Tryz.prog (Instr.loadAt 22 v41) (fun v42 w =>
        LiftP Tryz.prog (Instr.fieldAt 26 v3 8) (fun v43 w =>
        LiftP Tryz.prog (Instr.loadAt 22 v43) (fun v44 w =>
        CallP Tryz.prog 71 #[a0, v40, v42, v44] (fun v45 w =>
        NextP Tryz.prog (builtin Go.Builtin.len #[59] 3 #[false] #[v45]) (fun v46 w =>
        LoopP (fun J_1 vs_1 w =>   -- [8, 47]
          LiftP Tryz.prog (binS Go.BinOp.lss 3 (Go.Operand.tmp 47) (Go.Operand.tmp 46) (vs_1.tail.headD undef) v46) (fun v48 w =>
          CondP v48 (fun w =>
            JoinP (fun J_2 w =>
            LiftP Tryz.prog (Instr.indexAt 59 v45 (vs_1.tail.headD undef)) (fun v49 w =>
            LiftP Tryz.prog (Instr.loadAt 9 v49) (fun v50 w =>
            NextP Tryz.prog (builtin Go.Builtin.len #[35] 3 #[false] #[(vs_1.headD undef)]) (fun v52 w =>
            LiftP Tryz.prog (Instr.fieldAt 26 v3 9) (fun v53 w =>
            LiftP Tryz.prog (Instr.loadAt 3 v53) (fun v54 w =>
            LiftP Tryz.prog (binS Go.BinOp.lss 3 (Go.Operand.tmp 52) (Go.Operand.tmp 54) v52 v54) (fun v55 w =>
            CondP v55 (fun w =>
              NextP Tryz.prog (nilChk a0) (fun v59 w =>
              LiftP Tryz.prog (Instr.fieldAt 82 v59 0) (fun v60 w =>
              LiftP Tryz.prog (Instr.loadAt 80 v60) (fun v61 w =>
              LiftP Tryz.prog (Instr.lookup 80 v61 v50 false) (fun v63 w =>
              CallP Tryz.prog 45 #[v63] (fun v64 w =>
              LiftP Tryz.prog (Instr.build 40 #[(0, v50), (1, v64)]) (fun v65 w =>
              LiftP Tryz.prog (Instr.buildSlice 35 1 #[(0, v65)]) (fun v66 w =>
              NextP Tryz.prog (builtin Go.Builtin.append #[35, 35] 35 #[false, false] #[(vs_1.headD undef), v66]) (fun v67 w =>
              J_2 [v67] w) w) w) w) w) w) w) w) w) (fun w =>
              J_2 [(vs_1.headD undef)] w) w) w) w) w) w) w) w) (fun vs_2 w =>   -- [8]
          LiftP Tryz.prog (binS Go.BinOp.add 3 (Go.Operand.tmp 47) (Go.Operand.const (Go.Value.int Go.IntKind.i64 1)) (vs_1.tail.headD undef) (Go.Value.int Go.IntKind.i64 1)) (fun v68 w =>
          J_1 [(vs_2.headD undef), v68] w) w) w) (fun w =>
            LiftP Tryz.prog (Instr.build 37 #[(3, (vs_1.headD undef))]) (fun v70 w =>
        LiftU Tryz.prog (Instr.storeAt 37 v4 v70) (fun v__3 w =>
        RetC Tryz.prog v4 37 (fun x_2 => R x_2 w) w) w) w) w) w) [(Go.Value.slice none 0 0), (Go.Value.int Go.IntKind.i64 0)] w) w) w) w) w) w) w) w) w) w) (fun w =>
        LiftP Tryz.prog (binS Go.BinOp.eql 3 (Go.Operand.tmp 19) (Go.Operand.const (Go.Value.int Go.IntKind.i64 7)) v19 (Go.Value.int Go.IntKind.i64 7)) (fun v72 w =>
        CondP v72 (fun w =>
          NextP Tryz.prog (nilChk a0) (fun v74 w =>
          LiftP Tryz.prog (Instr.fieldAt 82 v74 1) (fun v75 w =>
          LiftP Tryz.prog (Instr.loadAt 48 v75) (fun v76 w =>
          NextP Tryz.prog (builtin Go.Builtin.len #[48] 3 #[false] #[v76]) (fun v77 w =>
          LiftP Tryz.prog (binS Go.BinOp.eql 3 (Go.Operand.tmp 77) (Go.Operand.const (Go.Value.int Go.IntKind.i64 6)) v77 (Go.Value.int Go.IntKind.i64 6)) (fun v78 w =>
          CondP v78 (fun w =>
            LiftP Tryz.prog (Instr.build 37 #[(0, (Go.Value.int Go.IntKind.i64 17))]) (fun v79 w =>
            LiftU Tryz.prog (Instr.storeAt 37 v4 v79) (fun v__4 w =>
            RetC Tryz.prog v4 37 (fun x_3 => R x_3 w) w) w) w) (fun w =>
            DrawP (fun S w =>
          YieldN Tryz.prog S (nilChk a0) (fun v82 w =>
          YieldP Tryz.prog S (Instr.fieldAt 82 v82 1) (fun v83 w =>
          YieldP Tryz.prog S (Instr.loadAt 48 v83) (fun v84 w =>
          YieldN Tryz.prog S (nilChk a0) (fun v86 w =>
          YieldP Tryz.prog S (Instr.fieldAt 82 v86 1) (fun v87 w =>
          YieldP Tryz.prog S (Instr.loadAt 48 v87) (fun v88 w =>
          YieldN Tryz.prog S (builtin Go.Builtin.len #[48] 3 #[false] #[v88]) (fun v89 w =>
          YieldP Tryz.prog S (binS Go.BinOp.add 3 (Go.Operand.tmp 89) (Go.Operand.const (Go.Value.int Go.IntKind.i64 1)) v89 (Go.Value.int Go.IntKind.i64 1)) (fun v90 w =>
          YieldP Tryz.prog S (Instr.fieldAt 26 v3 6) (fun v91 w =>
          YieldP Tryz.prog S (Instr.loadAt 24 v91) (fun v92 w =>
          ActP S (fun K w => CallP Tryz.prog 50 #[v92] K w) (fun S v93 w =>
          YieldP Tryz.prog S (Instr.build 53 #[(0, v90), (1, v93)]) (fun v94 w =>
          ActP S (fun K w => LiftP Tryz.prog (Instr.buildSlice 48 1 #[(0, v94)]) K w) (fun S v95 w =>
          ActP S (fun K w => NextP Tryz.prog (builtin Go.Builtin.append #[48, 48] 48 #[false, false] #[v84, v95]) K w) (fun S v96 w =>
          YieldN Tryz.prog S (nilChk a0) (fun v97 w =>
          YieldP Tryz.prog S (Instr.fieldAt 82 v97 1) (fun v98 w =>
          LiftU Tryz.prog (Instr.storeAt 48 v98 v96) (fun v__5 w =>
          NextP Tryz.prog (nilChk a0) (fun v100 w =>
          LiftP Tryz.prog (Instr.fieldAt 82 v100 1) (fun v101 w =>
          LiftP Tryz.prog (Instr.loadAt 48 v101) (fun v102 w =>
          NextP Tryz.prog (builtin Go.Builtin.len #[48] 3 #[false] #[v102]) (fun v103 w =>
          LiftP Tryz.prog (Instr.build 37 #[(4, v103)]) (fun v104 w =>
          LiftU Tryz.prog (Instr.storeAt 37 v4 v104) (fun v__6 w =>
          RetC Tryz.prog v4 37 (fun x_4 => R x_4 w) w) w) w) w) w) w) w) w) w) w) w) w) w) w) w) w) w) w) w) w) w) w) w) w) w) w) w) w) w) w) w) (fun w =>
          LiftP Tryz.prog (binS Go.BinOp.eql 3 (Go.Operand.tmp 19) (Go.Operand.const (Go.Value.int Go.IntKind.i64 8)) v19 (Go.Value.int Go.IntKind.i64 8)) (fun v106 w =>
          CondP v106 (fun w =>
            LiftP Tryz.prog (Op.unary Go.UnOp.not v17) (fun v108 w =>
            CondP v108 (fun w =>
              LiftP Tryz.prog (Instr.build 37 #[(0, (Go.Value.int Go.IntKind.i64 7))]) (fun v109 w =>
              LiftU Tryz.prog (Instr.storeAt 37 v4 v109) (fun v__7 w =>
              RetC Tryz.prog v4 37 (fun x_5 => R x_5 w) w) w) w) (fun w =>
              DrawP (fun S w =>
            YieldN Tryz.prog S (nilChk a0) (fun v111 w =>
            YieldP Tryz.prog S (Instr.fieldAt 82 v111 1) (fun v112 w =>
            YieldP Tryz.prog S (Instr.loadAt 48 v112) (fun v113 w =>
            YieldP Tryz.prog S (Instr.fieldAt 26 v3 5) (fun v114 w =>
            YieldP Tryz.prog S (Instr.loadAt 3 v114) (fun v115 w =>
            YieldP Tryz.prog S (binS Go.BinOp.sub 3 (Go.Operand.tmp 115) (Go.Operand.const (Go.Value.int Go.IntKind.i64 1)) v115 (Go.Value.int Go.IntKind.i64 1)) (fun v116 w =>
            YieldP Tryz.prog S (Instr.indexAt 48 v113 v116) (fun v117 w =>
            YieldP Tryz.prog S (Instr.fieldAt 53 v117 1) (fun v118 w =>
            LiftU Tryz.prog (Instr.storeAt 24 v118 (Go.Value.slice none 0 0)) (fun v__8 w =>
            J [] w) w) w) w) w) w) w) w) w) w) w) w) w) (fun w =>
            J [] w) w) w) w) w) w) w) w) w) w) w) (fun vs w =>   -- []
  LiftP Tryz.prog (Instr.build 37 #[]) (fun v119 w =>
  LiftU Tryz.prog (Instr.storeAt 37 v4 v119) (fun v__9 w =>
  RetC Tryz.prog v4 37 (fun x_6 => R x_6 w) w) w) w) w) w) w) w) w) w) w) w) w) w
theorem S47.calls (a0 a1 : Value) (R : Value → World → Prop) (w : World) (h : S47 a0 a1 R w) : Calls Tryz.prog 47 #[a0, a1] w fun e w' => ∃ v, e = .returned v ∧ R v w' :=
  calls_of_tr (n := 120) (c := bodyOf Tryz.f47) (.two .leaf (.two .leaf (.join [] (.two .leaf (.one (.two .leaf (.two (.two .leaf (.two .leaf .leaf)) (.two .leaf (.two (.two (.two .leaf (.two (.two .leaf .leaf) .leaf)) (.two .leaf (.two (.two .leaf (.one (.loop [8, 47] (.two .leaf (.two (.two .leaf .leaf) (.join [8] (.one (.two .leaf (.two .leaf (.two .leaf .leaf)))) .leaf)))))) (.two .leaf .leaf)))) (.two .leaf (.two (.two (.two .leaf (.two (.two .leaf .leaf) .leaf)) (.two (.drawL [(true, 0), (true, 1), (true, 2), (true, 3), (true, 4), (true, 5), (true, 6), (true, 7), (true, 8), (true, 9), (true, 10), (true, 11), (true, 12), (false, 13), (true, 14), (false, 15), (false, 16), (true, 17), (true, 18)] 19) (.two .leaf .leaf))) (.two .leaf (.two (.two (.two .leaf (.two (.two .leaf .leaf) .leaf)) (.drawL [(true, 0), (true, 1), (true, 2), (true, 3), (true, 4), (true, 5), (true, 6), (true, 7), (true, 8)] 9)) .leaf)))))))))) (.two .leaf .leaf)))) Tryz.func47 (by kernel_rfl) Tryz.ntmps47 (by kernel_rfl) (by kernel_rfl) [a0, a1] (by kernel_rfl) (of_eq_ (by kernel_rfl) h)

/-- (*shelfmark/plain.Store).index -/
def S57 (a0 a1 : Value) (R : Value → World → Prop) (w : World) : Prop :=
  LiftP Tryz.prog (Instr.alloc 53 true (.tuple #[])) (fun v4 w =>
  LiftP Tryz.prog (binS Go.BinOp.lss 3 (Go.Operand.tmp 6) (Go.Operand.const (Go.Value.int Go.IntKind.i64 1)) a1 (Go.Value.int Go.IntKind.i64 1)) (fun v7 w =>
  GuardP v7 false (fun K w => K a1 w) (fun v9 w =>
  GuardP v7 false (fun K w => K a0 w) (fun v10 w =>
  GuardP v7 false (fun K w => NextP Tryz.prog (nilChk v10) K w) (fun v11 w =>
  GuardP v7 false (fun K w => LiftP Tryz.prog (Instr.fieldAt 82 v11 1) K w) (fun v12 w =>
  GuardP v7 false (fun K w => LiftP Tryz.prog (Instr.loadAt 48 v12) K w) (fun v13 w =>
  GuardP v7 false (fun K w => NextP Tryz.prog (builtin Go.Builtin.len #[48] 3 #[false] #[v13]) K w) (fun v14 w =>
  GuardP v7 false (fun K w => LiftP Tryz.prog (binS Go.BinOp.gtr 3 (Go.Operand.tmp 9) (Go.Operand.tmp 14) v9 v14) K w) (fun v15 w =>
  PickP v7 (Go.Value.bool true) v15 (fun v16 w =>
  GuardP v16 false (fun K w => K a0 w) (fun v18 w =>
  GuardP v16 false (fun K w => NextP Tryz.prog (nilChk v18) K w) (fun v19 w =>
  GuardP v16 false (fun K w => LiftP Tryz.prog (Instr.fieldAt 82 v19 1) K w) (fun v20 w =>
  GuardP v16 false (fun K w => LiftP Tryz.prog (Instr.loadAt 48 v20) K w) (fun v21 w =>
  GuardP v16 false (fun K w => K a1 w) (fun v22 w =>
  GuardP v16 false (fun K w => LiftP Tryz.prog (binS Go.BinOp.sub 3 (Go.Operand.tmp 22) (Go.Operand.const (Go.Value.int Go.IntKind.i64 1)) v22 (Go.Value.int Go.IntKind.i64 1)) K w) (fun v23 w =>
  GuardP v16 false (fun K w => LiftP Tryz.prog (Instr.indexAt 48 v21 v23) K w) (fun v24 w =>
  GuardP v16 false (fun K w => LiftP Tryz.prog (Instr.fieldAt 53 v24 1) K w) (fun v25 w =>
  GuardP v16 false (fun K w => LiftP Tryz.prog (Instr.loadAt 24 v25) K w) (fun v26 w =>
  GuardP v16 false (fun K w => NextP Tryz.prog (builtin Go.Builtin.len #[24] 3 #[false] #[v26]) K w) (fun v27 w =>
  GuardP v16 false (fun K w => LiftP Tryz.prog (binS Go.BinOp.eql 3 (Go.Operand.tmp 27) (Go.Operand.const (Go.Value.int Go.IntKind.i64 0)) v27 (Go.Value.int Go.IntKind.i64 0)) K w) (fun v28 w =>
  PickP v16 (Go.Value.bool true) v28 (fun v29 w =>
  CondP v29 (fun w =>
    LiftP Tryz.prog (Instr.build 53 #[]) (fun v30 w =>
    LiftU Tryz.prog (Instr.storeAt 53 v4 v30) (fun v_ w =>
    RetC Tryz.prog v4 53 (fun x => R (.tuple #[x, (Go.Value.bool false)]) w) w) w) w) (fun w =>
    NextP Tryz.prog (nilChk a0) (fun v32 w =>
  LiftP Tryz.prog (Instr.fieldAt 82 v32 1) (fun v33 w =>
  LiftP Tryz.prog (Instr.loadAt 48 v33) (fun v34 w =>
  LiftP Tryz.prog (binS Go.BinOp.sub 3 (Go.Operand.tmp 35) (Go.Operand.const (Go.Value.int Go.IntKind.i64 1)) a1 (Go.Value.int Go.IntKind.i64 1)) (fun v36 w =>
  LiftP Tryz.prog (Instr.indexAt 48 v34 v36) (fun v37 w =>
  LiftP Tryz.prog (Instr.loadAt 53 v37) (fun v38 w =>
  LiftU Tryz.prog (Instr.storeAt 53 v4 v38) (fun v__1 w =>
  RetC Tryz.prog v4 53 (fun x_1 => R (.tuple #[x_1, (Go.Value.bool true)]) w) w) w) w) w) w) w) w) w) w) w) w) w) w) w) w) w) w) w) w) w) w) w) w) w) w) w) w) w) w) w) w
theorem S57.calls (a0 a1 : Value) (R : Value → World → Prop) (w : World) (h : S57 a0 a1 R w) : Calls Tryz.prog 57 #[a0, a1] w fun e w' => ∃ v, e = .returned v ∧ R v w' :=
  calls_of_tr (n := 39) (c := bodyOf Tryz.f57) (.two .leaf (.two (.two .leaf (.two (.two .leaf .leaf) .leaf)) (.two .leaf .leaf))) Tryz.func57 (by kernel_rfl) Tryz.ntmps57 (by kernel_rfl) (by kernel_rfl) [a0, a1] (by kernel_rfl) (of_eq_ (by kernel_rfl) h)

/-- (*shelfmark/plain.Store).entries -/
def S58 (a0 a1 a2 a3 : Value) (R : Value → World → Prop) (w : World) : Prop :=
  LiftP Tryz.prog (Instr.box 53 a1) (fun v5 w =>
  NextP Tryz.prog (nilChk a0) (fun v17 w =>
  LiftP Tryz.prog (Instr.fieldAt 82 v17 0) (fun v18 w =>
  LiftP Tryz.prog (Instr.loadAt 80 v18) (fun v19 w =>
  LiftP Tryz.prog (Instr.range 80 v19) (fun v20 w =>
  LoopP (fun J vs w =>   -- [9]
    LiftP Tryz.prog (Instr.next v20 false 0) (fun v21 w =>
    LiftP Tryz.prog (Instr.extract v21 0) (fun v22 w =>
    CondP v22 (fun w =>
      LiftP Tryz.prog (Instr.entry v20) (fun v23 w =>
    LiftP Tryz.prog (Instr.extract v23 0) (fun v24 w =>
    LiftP Tryz.prog (Instr.extract v23 1) (fun v25 w =>
    LiftP Tryz.prog (Instr.loadAt 53 v5) (fun v27 w =>
    CallP Tryz.prog 77 #[v27, v25] (fun v29 w =>
    LiftP Tryz.prog (Instr.extract v29 0) (fun v30 w =>
    LiftP Tryz.prog (Instr.extract v29 1) (fun v31 w =>
    GuardP v31 true (fun K w => K v30 w) (fun v34 w =>
    GuardP v31 true (fun K w => K a2 w) (fun v35 w =>
    GuardP v31 true (fun K w => K a3 w) (fun v36 w =>
    GuardP v31 true (fun K w => CallP Tryz.prog 78 #[v34, v35, v36] K w) (fun v37 w =>
    PickP v31 v37 (Go.Value.bool false) (fun v38 w =>
    CondP v38 (fun w =>
      LiftP Tryz.prog (Instr.fieldAt 53 v5 0) (fun v40 w =>
      LiftP Tryz.prog (Instr.loadAt 3 v40) (fun v41 w =>
      CallP Tryz.prog 79 #[v41, v30, v24] (fun v44 w =>
      LiftP Tryz.prog (Instr.extract v44 0) (fun v45 w =>
      LiftP Tryz.prog (Instr.extract v44 1) (fun v46 w =>
      LiftP Tryz.prog (Instr.build 105 #[(0, v45), (1, v24)]) (fun v50 w =>
      LiftP Tryz.prog (Instr.buildSlice 102 1 #[(0, v50)]) (fun v51 w =>
      NextP Tryz.prog (builtin Go.Builtin.append #[102, 102] 102 #[false, false] #[(vs.headD undef), v51]) (fun v52 w =>
      J [v52] w) w) w) w) w) w) w) w) w) (fun w =>
      J [(vs.headD undef)] w) w) w) w) w) w) w) w) w) w) w) w) w) w) (fun w =>
      CallP Tryz.prog 80 #[(vs.headD undef), (.func (.func 81) #[] #[])] (fun v54 w =>
  R (vs.headD undef) w) w) w) w) w) [(Go.Value.slice none 0 0)] w) w) w) w) w) w
theorem S58.calls (a0 a1 a2 a3 : Value) (R : Value → World → Prop) (w : World) (h : S58 a0 a1 a2 a3 R w) : Calls Tryz.prog 58 #[a0, a1, a2, a3] w fun e w' => ∃ v, e = .returned v ∧ R v w' :=
  calls_of_tr (n := 56) (c := bodyOf Tryz.f58) (.two .leaf (.two .leaf (.two (.two .leaf (.one (.loop [9] (.two .leaf (.two (.two .leaf .leaf) (.one (.two .leaf (.two .leaf (.two .leaf (.two (.two .leaf .leaf) .leaf)))))))))) (.two .leaf (.two .leaf .leaf))))) Tryz.func58 (by kernel_rfl) Tryz.ntmps58 (by kernel_rfl) (by kernel_rfl) [a0, a1, a2, a3] (by kernel_rfl) (of_eq_ (by kernel_rfl) h)

/-- shelfmark/plain.must$1 -/
def S59 (a0 : Value) (R : Value → World → Prop) (w : World) : Prop :=
  LiftP Tryz.prog (Instr.loadAt 4 a0) (fun v2 w =>
  CondP v2 (fun w =>
    R (Go.Value.int Go.IntKind.i64 0) w) (fun w =>
    R (Go.Value.int Go.IntKind.i64 1) w) w) w
theorem S59.calls (a0 : Value) (R : Value → World → Prop) (w : World) (h : S59 a0 R w) : Calls Tryz.prog 59 #[a0] w fun e w' => ∃ v, e = .returned v ∧ R v w' :=
  calls_of_tr (n := 3) (c := bodyOf Tryz.f59) (.two .leaf (.two (.two .leaf (.two (.two .leaf .leaf) .leaf)) (.two .leaf .leaf))) Tryz.func59 (by kernel_rfl) Tryz.ntmps59 (by kernel_rfl) (by kernel_rfl) [a0] (by kernel_rfl) (of_eq_ (by kernel_rfl) h)

/-- shelfmark/plain.rec$1 -/
def S60 (a0 : Value) (R : Value → World → Prop) (w : World) : Prop :=
  LiftP Tryz.prog (Instr.loadAt 23 a0) (fun v2 w =>
  CallP Tryz.prog 61 #[v2] (fun v3 w =>
  R v3 w) w) w
theorem S60.calls (a0 : Value) (R : Value → World → Prop) (w : World) (h : S60 a0 R w) : Calls Tryz.prog 60 #[a0] w fun e w' => ∃ v, e = .returned v ∧ R v w' :=
  calls_of_tr (n := 4) (c := bodyOf Tryz.f60) (.two .leaf (.two .leaf .leaf)) Tryz.func60 (by kernel_rfl) Tryz.ntmps60 (by kernel_rfl) (by kernel_rfl) [a0] (by kernel_rfl) (of_eq_ (by kernel_rfl) h)

/-- shelfmark/plain.old$1 -/
def S62 (a0 : Value) (R : Value → World → Prop) (w : World) : Prop :=
  LiftP Tryz.prog (Instr.loadAt 23 a0) (fun v2 w =>
  NextP Tryz.prog (builtin Go.Builtin.len #[23] 3 #[false] #[v2]) (fun v3 w =>
  LiftP Tryz.prog (binS Go.BinOp.eql 3 (Go.Operand.tmp 3) (Go.Operand.const (Go.Value.int Go.IntKind.i64 0)) v3 (Go.Value.int Go.IntKind.i64 0)) (fun v4 w =>
  CondP v4 (fun w =>
    R (Go.Value.int Go.IntKind.i64 0) w) (fun w =>
    LiftP Tryz.prog (Instr.loadAt 23 a0) (fun v5 w =>
  CallP Tryz.prog 61 #[v5] (fun v6 w =>
  R v6 w) w) w) w) w) w) w
theorem S62.calls (a0 : Value) (R : Value → World → Prop) (w : World) (h : S62 a0 R w) : Calls Tryz.prog 62 #[a0] w fun e w' => ∃ v, e = .returned v ∧ R v w' :=
  calls_of_tr (n := 7) (c := bodyOf Tryz.f62) (.two .leaf (.two (.two .leaf (.two (.two .leaf .leaf) .leaf)) (.two .leaf .leaf))) Tryz.func62 (by kernel_rfl) Tryz.ntmps62 (by kernel_rfl) (by kernel_rfl) [a0] (by kernel_rfl) (of_eq_ (by kernel_rfl) h)

/-- shelfmark/plain.vals$1 -/
def S63 (a0 : Value) (R : Value → World → Prop) (w : World) : Prop :=
  LiftP Tryz.prog (Instr.loadAt 22 a0) (fun v5 w =>
  CallP Tryz.prog 64 #[v5] (fun v6 w =>
  LiftP Tryz.prog (Instr.extract v6 0) (fun v7 w =>
  LiftP Tryz.prog (Instr.extract v6 1) (fun v8 w =>
  R v8 w) w) w) w) w
theorem S63.calls (a0 : Value) (R : Value → World → Prop) (w : World) (h : S63 a0 R w) : Calls Tryz.prog 63 #[a0] w fun e w' => ∃ v, e = .returned v ∧ R v w' :=
  calls_of_tr (n := 10) (c := bodyOf Tryz.f63) (.two .leaf (.two .leaf (.two .leaf .leaf))) Tryz.func63 (by kernel_rfl) Tryz.ntmps63 (by kernel_rfl) (by kernel_rfl) [a0] (by kernel_rfl) (of_eq_ (by kernel_rfl) h)

/-- slices.DeleteFunc[[]shelfmark/api.Row,shelfmark/api.Row] -/
def S69 (a0 a1 : Value) (R : Value → World → Prop) (w : World) : Prop :=
  CallP Tryz.prog 87 #[a0, a1] (fun v10 w =>
  LiftP Tryz.prog (binS Go.BinOp.eql 3 (Go.Operand.tmp 11) (Go.Operand.const (Go.Value.int Go.IntKind.i64 (-1))) v10 (Go.Value.int Go.IntKind.i64 (-1))) (fun v12 w =>
  CondP v12 (fun w =>
    R a0 w) (fun w =>
    LiftP Tryz.prog (binS Go.BinOp.add 3 (Go.Operand.tmp 14) (Go.Operand.const (Go.Value.int Go.IntKind.i64 1)) v10 (Go.Value.int Go.IntKind.i64 1)) (fun v15 w =>
  LoopP (fun J vs w =>   -- [5, 6]
    NextP Tryz.prog (builtin Go.Builtin.len #[35] 3 #[false] #[a0]) (fun v18 w =>
    LiftP Tryz.prog (binS Go.BinOp.lss 3 (Go.Operand.tmp 16) (Go.Operand.tmp 18) (vs.tail.headD undef) v18) (fun v19 w =>
    CondP v19 (fun w =>
      JoinP (fun J_1 w =>
      LiftP Tryz.prog (Instr.indexAt 35 a0 (vs.tail.headD undef)) (fun v24 w =>
      LiftP Tryz.prog (Instr.loadAt 40 v24) (fun v25 w =>
      LiftP Tryz.prog (Instr.alloc 40 true (.tuple #[])) (fun v7 w =>
      LiftU Tryz.prog (Instr.storeAt 40 v7 v25) (fun v_ w =>
      LiftP Tryz.prog (Instr.loadAt 40 v7) (fun v27 w =>
      NextP Tryz.prog (callV a1 #[v27]) (fun v28 w =>
      LiftP Tryz.prog (Op.unary Go.UnOp.not v28) (fun v29 w =>
      CondP v29 (fun w =>
        LiftP Tryz.prog (Instr.loadAt 40 v7) (fun v32 w =>
        LiftP Tryz.prog (Instr.indexAt 35 a0 (vs.headD undef)) (fun v33 w =>
        LiftU Tryz.prog (Instr.storeAt 40 v33 v32) (fun v__1 w =>
        LiftP Tryz.prog (binS Go.BinOp.add 3 (Go.Operand.tmp 34) (Go.Operand.const (Go.Value.int Go.IntKind.i64 1)) (vs.headD undef) (Go.Value.int Go.IntKind.i64 1)) (fun v35 w =>
        J_1 [v35] w) w) w) w) w) (fun w =>
        J_1 [(vs.headD undef)] w) w) w) w) w) w) w) w) w) (fun vs_1 w =>   -- [5]
    LiftP Tryz.prog (binS Go.BinOp.add 3 (Go.Operand.tmp 20) (Go.Operand.const (Go.Value.int Go.IntKind.i64 1)) (vs.tail.headD undef) (Go.Value.int Go.IntKind.i64 1)) (fun v21 w =>
    J [(vs_1.headD undef), v21] w) w) w) (fun w =>
      LiftP Tryz.prog (Instr.sliceAt 35 a0 (some (vs.headD undef)) none none) (fun v38 w =>
  NextP Tryz.prog (builtin Go.Builtin.clear #[35] 0 #[false] #[v38]) (fun v__2 w =>
  LiftP Tryz.prog (Instr.sliceAt 35 a0 none (some (vs.headD undef)) none) (fun v41 w =>
  R v41 w) w) w) w) w) w) w) [v10, v15] w) w) w) w) w
theorem S69.calls (a0 a1 : Value) (R : Value → World → Prop) (w : World) (h : S69 a0 a1 R w) : Calls Tryz.prog 69 #[a0, a1] w fun e w' => ∃ v, e = .returned v ∧ R v w' :=
  calls_of_tr (n := 42) (c := bodyOf Tryz.f69) (.two .leaf (.two .leaf (.two (.two .leaf (.two (.two .leaf .leaf) .leaf)) (.two (.two .leaf (.one (.loop [5, 6] (.two (.two .leaf (.two .leaf .leaf)) (.join [5] (.one (.two .leaf (.two .leaf (.two (.two .leaf .leaf) .leaf)))) .leaf))))) (.two .leaf (.two .leaf .leaf)))))) Tryz.func69 (by kernel_rfl) Tryz.ntmps69 (by kernel_rfl) (by kernel_rfl) [a0, a1] (by kernel_rfl) (of_eq_ (by kernel_rfl) h)

/-- (*shelfmark/plain.Store).other$1 -/
def S70 (a0 a1 : Value) (R : Value → World → Prop) (w : World) : Prop :=
  LiftP Tryz.prog (Instr.box 40 a0) (fun v2 w =>
  LiftP Tryz.prog (Instr.fieldAt 40 v2 0) (fun v4 w =>
  LiftP Tryz.prog (Instr.loadAt 9 v4) (fun v5 w =>
  LiftP Tryz.prog (Instr.fieldAt 26 a1 1) (fun v6 w =>
  LiftP Tryz.prog (Instr.loadAt 9 v6) (fun v7 w =>
  LiftP Tryz.prog (binS Go.BinOp.lss 9 (Go.Operand.tmp 5) (Go.Operand.tmp 7) v5 v7) (fun v8 w =>
  GuardP v8 false (fun K w => LiftP Tryz.prog (Instr.fieldAt 26 a1 2) K w) (fun v10 w =>
  GuardP v8 false (fun K w => LiftP Tryz.prog (Instr.loadAt 9 v10) K w) (fun v11 w =>
  GuardP v8 false (fun K w => LiftP Tryz.prog (binS Go.BinOp.neq 9 (Go.Operand.tmp 11) (Go.Operand.const (Go.Value.string { data := #[] })) v11 (Go.Value.string { data := #[] })) K w) (fun v12 w =>
  GuardP v8 false (fun K w => K v12 w) (fun v13 w =>
  GuardP v13 true (fun K w => LiftP Tryz.prog (Instr.fieldAt 40 v2 0) K w) (fun v14 w =>
  GuardP v13 true (fun K w => LiftP Tryz.prog (Instr.loadAt 9 v14) K w) (fun v15 w =>
  GuardP v13 true (fun K w => LiftP Tryz.prog (Instr.fieldAt 26 a1 2) K w) (fun v16 w =>
  GuardP v13 true (fun K w => LiftP Tryz.prog (Instr.loadAt 9 v16) K w) (fun v17 w =>
  GuardP v13 true (fun K w => LiftP Tryz.prog (binS Go.BinOp.geq 9 (Go.Operand.tmp 15) (Go.Operand.tmp 17) v15 v17) K w) (fun v18 w =>
  GuardP v8 false (fun K w => PickP v13 v18 (Go.Value.bool false) K w) (fun v19 w =>
  PickP v8 (Go.Value.bool true) v19 (fun v20 w =>
  R v20 w) w) w) w) w) w) w) w) w) w) w) w) w) w) w) w) w) w
theorem S70.calls (a0 a1 : Value) (R : Value → World → Prop) (w : World) (h : S70 a0 a1 R w) : Calls Tryz.prog 70 #[a0, a1] w fun e w' => ∃ v, e = .returned v ∧ R v w' :=
  calls_of_tr (n := 21) (c := bodyOf Tryz.f70) (.two .leaf (.two .leaf .leaf)) Tryz.func70 (by kernel_rfl) Tryz.ntmps70 (by kernel_rfl) (by kernel_rfl) [a0, a1] (by kernel_rfl) (of_eq_ (by kernel_rfl) h)

/-- (*shelfmark/plain.Store).keys -/
def S71 (a0 a1 a2 a3 : Value) (R : Value → World → Prop) (w : World) : Prop :=
  LiftP Tryz.prog (Instr.box 53 a1) (fun v5 w =>
  LiftP Tryz.prog (Instr.loadAt 53 v5) (fun v13 w =>
  CallP Tryz.prog 58 #[a0, v13, a2, a3] (fun v16 w =>
  NextP Tryz.prog (builtin Go.Builtin.len #[102] 3 #[false] #[v16]) (fun v17 w =>
  LoopP (fun J vs w =>   -- [9, 18]
    LiftP Tryz.prog (binS Go.BinOp.lss 3 (Go.Operand.tmp 18) (Go.Operand.tmp 17) (vs.tail.headD undef) v17) (fun v19 w =>
    CondP v19 (fun w =>
      LiftP Tryz.prog (Instr.indexAt 102 v16 (vs.tail.headD undef)) (fun v20 w =>
    LiftP Tryz.prog (Instr.loadAt 105 v20) (fun v21 w =>
    LiftP Tryz.prog (Instr.alloc 105 true (.tuple #[])) (fun v11 w =>
    LiftU Tryz.prog (Instr.storeAt 105 v11 v21) (fun v_ w =>
    LiftP Tryz.prog (Instr.fieldAt 105 v11 1) (fun v23 w =>
    LiftP Tryz.prog (Instr.loadAt 9 v23) (fun v24 w =>
    LiftP Tryz.prog (Instr.buildSlice 59 1 #[(0, v24)]) (fun v25 w =>
    NextP Tryz.prog (builtin Go.Builtin.append #[59, 59] 59 #[false, false] #[(vs.headD undef), v25]) (fun v26 w =>
    LiftP Tryz.prog (binS Go.BinOp.add 3 (Go.Operand.tmp 18) (Go.Operand.const (Go.Value.int Go.IntKind.i64 1)) (vs.tail.headD undef) (Go.Value.int Go.IntKind.i64 1)) (fun v27 w =>
    J [v26, v27] w) w) w) w) w) w) w) w) w) w) (fun w =>
      R (vs.headD undef) w) w) w) [(Go.Value.slice none 0 0), (Go.Value.int Go.IntKind.i64 0)] w) w) w) w) w
theorem S71.calls (a0 a1 a2 a3 : Value) (R : Value → World → Prop) (w : World) (h : S71 a0 a1 a2 a3 R w) : Calls Tryz.prog 71 #[a0, a1, a2, a3] w fun e w' => ∃ v, e = .returned v ∧ R v w' :=
  calls_of_tr (n := 29) (c := bodyOf Tryz.f71) (.two .leaf (.two .leaf (.two (.two .leaf (.one (.loop [9, 18] (.two .leaf (.two (.two .leaf .leaf) (.two (.one (.two .leaf .leaf)) .leaf)))))) (.two .leaf .leaf)))) Tryz.func71 (by kernel_rfl) Tryz.ntmps71 (by kernel_rfl) (by kernel_rfl) [a0, a1, a2, a3] (by kernel_rfl) (of_eq_ (by kernel_rfl) h)

/-- (*shelfmark/plain.Store).entries$1 -/
def S81 (a0 a1 : Value) (R : Value → World → Prop) (w : World) : Prop :=
  LiftP Tryz.prog (Instr.box 105 a0) (fun v2 w =>
  LiftP Tryz.prog (Instr.box 105 a1) (fun v3 w =>
  LiftP Tryz.prog (Instr.fieldAt 105 v2 0) (fun v5 w =>
  LiftP Tryz.prog (Instr.loadAt 9 v5) (fun v6 w =>
  LiftP Tryz.prog (Instr.fieldAt 105 v3 0) (fun v7 w =>
  LiftP Tryz.prog (Instr.loadAt 9 v7) (fun v8 w =>
  CallP Tryz.prog 82 #[v6, v8] (fun v9 w =>
  R v9 w) w) w) w) w) w) w) w
theorem S81.calls (a0 a1 : Value) (R : Value → World → Prop) (w : World) (h : S81 a0 a1 R w) : Calls Tryz.prog 81 #[a0, a1] w fun e w' => ∃ v, e = .returned v ∧ R v w' :=
  calls_of_tr (n := 10) (c := bodyOf Tryz.f81) (.two .leaf (.two .leaf .leaf)) Tryz.func81 (by kernel_rfl) Tryz.ntmps81 (by kernel_rfl) (by kernel_rfl) [a0, a1] (by kernel_rfl) (of_eq_ (by kernel_rfl) h)

end Go.Proofs.YtonblppkidpmlaaGreatDoor.E
namespace Go.Proofs.YtonblppkidpmlaaGreatDoor.E
open Go Go.RowKit
set_option linter.unusedSimpArgs false
set_option linter.unusedVariables false

/-- A function value that answers e. -/
def Ask (w : World) (v : Value) (e : Int) : Prop := ∃ f g, v = .func (.func f) #[] #[.pointer (some ⟨g, 0, none⟩)] ∧ callable Tryz.prog f = true ∧ ∀ w', Below w.heap.size w w' → CallP Tryz.prog f #[.pointer (some ⟨g, 0, none⟩)] (fun r w'' => r = .int .i64 e ∧ Below w'.heap.size w' w'') w'
theorem Ask.below {w w1 : World} {v : Value} {e : Int} (h : Ask w v e) (hb : Below w.heap.size w w1) : Ask w1 v e := by
  obtain ⟨f, g, rfl, hc, hf⟩ := h
  exact ⟨f, g, rfl, hc, fun w' h' => hf w' (below_then hb h')⟩
theorem Ask.one {w : World} {v : Value} {e : Int} (h : Ask w v e) : v.oneCell' = true := by
  obtain ⟨f, g, rfl, _⟩ := h; rfl
/-- The function value called. -/
theorem Ask.call {w : World} {v : Value} {e : Int} {K : Value → World → Prop} (h : Ask w v e) (k : ∀ w', Below w.heap.size w w' → K (.int .i64 e) w') : NextP Tryz.prog (callV v #[]) K w := by
  obtain ⟨f, g, rfl, hc, hf⟩ := h
  refine cvl hc ((hf w (Below.refl _ _)).mono ?_)
  rintro _ w' ⟨rfl, hb⟩
  exact k w' hb
theorem must_spec (b : Bool) (w : World) : CallP Tryz.prog 32 #[.bool b] (fun r w' => Ask w' r (if b then 0 else 1) ∧ Below w.heap.size w w') w := by
  refine ⟨S32.calls _ _ _ ?_⟩
  unfold S32
  refine bx ?_
  have hB := Blk.new w 4 #[.bool b]
  have hal := (Below.refl w.heap.size w).alloc (Nat.le_refl _) (.cells #[.bool b] 4)
  refine mkf ?_
  refine ⟨⟨_, _, rfl, by kernel_rfl, fun w' hb => ⟨S59.calls _ _ _ ?_⟩⟩, hal⟩
  unfold S59
  refine ld one4 ((hB.below' hb).cell 0) ?_
  cases b with
  | true => exact CondP.yes rfl ⟨rfl, Below.refl _ _⟩
  | false => exact CondP.no_ rfl ⟨rfl, Below.refl _ _⟩
theorem rec_spec (v : Value) (l : List ValT) (w : World) (hv : Vals w [v] l) : CallP Tryz.prog 35 #[v] (fun r w' => Ask w' r (recE l) ∧ Below w.heap.size w w') w := by
  obtain ⟨A, c, rfl, hc, hm⟩ := hv.slice
  refine ⟨S35.calls _ _ _ ?_⟩
  unfold S35
  refine bx ?_
  have hB := Blk.new w 23 #[.slice A l.length c]
  have hal := (Below.refl w.heap.size w).alloc (Nat.le_refl _) (.cells #[.slice A l.length c] 23)
  refine mkf ?_
  refine ⟨⟨_, _, rfl, by kernel_rfl, fun w' hb => ⟨S60.calls _ _ _ ?_⟩⟩, hal⟩
  unfold S60
  refine ld oneRec ((hB.below' hb).cell 0) ?_
  refine (check_spec _ l w' (keeps_Vals _ _ _ _ (below_then hal hb) hv)).mono ?_
  rintro _ w2 ⟨rfl, hb2⟩
  exact ⟨rfl, hb2⟩
def oldE (l : List ValT) : Int := if l.length = 0 then 0 else recE l
theorem old_spec (v : Value) (l : List ValT) (w : World) (hv : Vals w [v] l) : CallP Tryz.prog 37 #[v] (fun r w' => Ask w' r (oldE l) ∧ Below w.heap.size w w') w := by
  obtain ⟨A, c, rfl, hc, hm⟩ := hv.slice
  refine ⟨S37.calls _ _ _ ?_⟩
  unfold S37
  refine bx ?_
  have hB := Blk.new w 23 #[.slice A l.length c]
  have hal := (Below.refl w.heap.size w).alloc (Nat.le_refl _) (.cells #[.slice A l.length c] 23)
  refine mkf ?_
  refine ⟨⟨_, _, rfl, by kernel_rfl, fun w' hb => ⟨S62.calls _ _ _ ?_⟩⟩, hal⟩
  unfold S62
  refine ld oneRec ((hB.below' hb).cell 0) ?_
  refine ln undRec ?_
  refine bi_eql_c (fun h => ?_) (fun h => ?_)
  · (repeat with_reducible first|refine z_b ?_)
    exact ⟨by unfold oldE; rw [if_pos (by omega)], Below.refl _ _⟩
  · (repeat with_reducible first|refine z_c ?_)
    refine ld oneRec ((hB.below' hb).cell 0) ?_
    refine (check_spec _ l w' (keeps_Vals _ _ _ _ (below_then hal hb) hv)).mono ?_
    rintro _ w2 ⟨rfl, hb2⟩
    exact ⟨by unfold oldE; rw [if_neg (by omega)], hb2⟩
theorem vals_spec (v : Value) (l : List ValT) (w : World) (hv : Vals w [v] l) (hm : GMx w) : CallP Tryz.prog 38 #[v] (fun r w' => Ask w' r (rowE l) ∧ Below w.heap.size w w') w := by
  obtain ⟨A, c, rfl, hc, hmx⟩ := hv.slice
  refine ⟨S38.calls _ _ _ ?_⟩
  unfold S38
  refine bx ?_
  have hB := Blk.new w 22 #[.slice A l.length c]
  have hal := (Below.refl w.heap.size w).alloc (Nat.le_refl _) (.cells #[.slice A l.length c] 22)
  refine mkf ?_
  refine ⟨⟨_, _, rfl, by kernel_rfl, fun w' hb => ⟨S63.calls _ _ _ ?_⟩⟩, hal⟩
  unfold S63
  refine ld oneVs ((hB.below' hb).cell 0) ?_
  refine (Key64 _ l w' (keeps_Vals _ _ _ _ (below_then hal hb) hv) (hm.below (below_then hal hb))).mono ?_
  rintro _ w2 ⟨rfl, hb2⟩
  unfold keyV
  (repeat with_reducible first|refine z_A ?_|refine z_B ?_)
  exact ⟨rfl, hb2⟩
def inE (n a b : Int) : Int := if a ≤ n ∧ n ≤ b then 0 else 1
theorem within_spec (n a b : Int) (w : World) : CallP Tryz.prog 34 #[.int .i64 n, .int .i64 a, .int .i64 b] (fun r w' => Ask w' r (inE n a b) ∧ Below w.heap.size w w') w := by
  refine ⟨S34.calls _ _ _ _ _ ?_⟩
  unfold S34
  refine bi_geq_c (fun h => ?_) (fun h => ?_)
  · (repeat with_reducible first|refine z_d ?_)
    refine bi_leq_c (fun h1 => ?_) (fun h1 => ?_)
    · (repeat with_reducible first|refine z_k ?_)
      refine (must_spec true w).mono ?_
      rintro r w1 ⟨ha, hb⟩
      have e : inE n a b = if true = true then 0 else 1 := by unfold inE; rw [if_pos ⟨h, h1⟩]; rfl
      exact ⟨by rw [e]; exact ha, hb⟩
    · (repeat with_reducible first|refine z_k ?_)
      refine (must_spec false w).mono ?_
      rintro r w1 ⟨ha, hb⟩
      have e : inE n a b = if false = true then 0 else 1 := by unfold inE; rw [if_neg fun e => h1 e.2]; rfl
      exact ⟨by rw [e]; exact ha, hb⟩
  · (repeat with_reducible first|refine z_e ?_|refine z_l ?_)
    refine (must_spec false w).mono ?_
    rintro r w1 ⟨ha, hb⟩
    have e : inE n a b = if false = true then 0 else 1 := by unfold inE; rw [if_neg fun e => h e.1]; rfl
    exact ⟨by rw [e]; exact ha, hb⟩
theorem undAs : Tryz.prog.underlying 75 = some (.slice 69) := by kernel_rfl
theorem szFn : (Tryz.prog.info? 69).map (·.size) = some 1 := by kernel_rfl
theorem oneFn : oneB Tryz.prog 69 = true := by kernel_rfl
/-- Function values that answer so, in a row. -/
def Asks (w : World) (vs : List Value) (es : List Int) : Prop := vs.length = es.length ∧ ∀ (k : Nat) v e, vs[k]? = some v → es[k]? = some e → Ask w v e
theorem Asks.below {w w1 : World} {vs : List Value} {es : List Int} (h : Asks w vs es) (hb : Below w.heap.size w w1) : Asks w1 vs es := ⟨h.1, fun k v e hv he => (h.2 k v e hv he).below hb⟩
theorem Asks.nil (w : World) : Asks w [] [] := ⟨rfl, fun k v e h => by simp at h⟩
theorem Asks.cons {w : World} {v : Value} {e : Int} {vs : List Value} {es : List Int} (h : Ask w v e) (hs : Asks w vs es) : Asks w (v :: vs) (e :: es) := by
  refine ⟨by simp [hs.1], fun k v' e' hv he => ?_⟩
  cases k with
  | zero => simp at hv he; subst hv; subst he; exact h
  | succ k => exact hs.2 k v' e' (by simpa using hv) (by simpa using he)
theorem firstAsk (v : Value) (vs : List Value) (es : List Int) (w : World) (hv : Rd w v vs) (ha : Asks w vs es) : CallP Tryz.prog 36 #[v] (fun r w' => r = .int .i64 (firstE es) ∧ Below w.heap.size w w') w := by
  obtain ⟨A, c, rfl, hc, hm⟩ := hv.slice
  refine ⟨S36.calls _ _ _ ?_⟩
  unfold S36
  refine ln undAs ?_
  refine LoopP.inv1 (fun iv w' => ∃ k : Nat, k ≤ vs.length ∧ iv = .int .i64 k ∧ Below w.heap.size w w' ∧ firstE es = firstE (es.drop k)) (fun iv _ => vs.length - (intOf iv).toNat) ⟨0, by omega, rfl, Below.refl _ _, rfl⟩ ?_
  rintro _ w1 ⟨k, hk, rfl, hb1, hf⟩ J hJ
  dsimp only [List.headD_cons, List.tail_cons]
  have hl := ha.1
  refine bi_lss_c (fun h => ?_) (fun h => ?_)
  · have hk' : k < vs.length := by omega
    obtain ⟨a, rfl, hca⟩ := Rd.at (hv.below hb1) k hk'
    rw [firstE_drop es k (by omega)] at hf
    (repeat with_reducible first|refine ix1 undAs szFn hk' ?_|refine ld oneFn hca ?_|refine z_b ?_)
    refine ((ha.2 k vs[k] (es[k]'(by omega)) (List.getElem?_eq_getElem hk') (List.getElem?_eq_getElem (by omega))).below hb1).call ?_
    intro w2 hb2
    refine bi_neq_c (fun h => ?_) (fun h => ?_)
    · (repeat with_reducible first|refine z_b ?_)
      exact ⟨by rw [hf, if_pos h], below_then hb1 hb2⟩
    · (repeat with_reducible first|refine z_c ?_|refine z_o (by omega) ?_)
      exact hJ _ _ ⟨k + 1, by omega, by simp, below_then hb1 hb2, by rw [hf, if_neg (by omega)]⟩ (by simp [intOf]; omega)
  · have hkl : k = es.length := by omega
    subst hkl
    rw [List.drop_length] at hf
    (repeat with_reducible first|refine z_c ?_)
    exact ⟨by rw [hf]; rfl, hb1⟩
end Go.Proofs.YtonblppkidpmlaaGreatDoor.E
