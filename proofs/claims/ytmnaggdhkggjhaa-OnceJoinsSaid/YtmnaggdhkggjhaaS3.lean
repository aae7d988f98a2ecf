import Derived.Test.YtmnaggdhkggjhaaM1
import Derived.Test.YtmnaggdhkggjhaaProg
import Derived.KernelRfl
namespace Go.Proofs.Ytmnaggdhkggjhaa.E
open Go
set_option maxRecDepth 100000

/-- shelfmark/shelfmarklaw17.OnceNever -/
def S6 (a0 : Value) (R : Value → World → Prop) (w : World) : Prop :=
  CallP Try.prog 8 #[] (fun v10 w =>
  LiftP Try.prog (Op.unary Go.UnOp.not v10) (fun v11 w =>
  CondP v11 (fun w =>
    R (Go.Value.bool false) w) (fun w =>
    CallP Try.prog 14 #[a0] (fun v13 w =>
  LiftP Try.prog (Op.unary Go.UnOp.not v13) (fun v14 w =>
  CondP v14 (fun w =>
    R (Go.Value.bool true) w) (fun w =>
    CallP Try.prog 10 #[] (fun v15 w =>
  CallP Try.prog 10 #[] (fun v16 w =>
  LiftP Try.prog (Instr.build 54 #[(0, v15), (1, v16)]) (fun v17 w =>
  LiftP Try.prog (Instr.alloc 54 true (.tuple #[])) (fun v3 w =>
  LiftU Try.prog (Instr.storeAt 54 v3 v17) (fun v_ w =>
  LoopP (fun J vs w =>   -- [4, 5]
    NextP Try.prog (builtin Go.Builtin.len #[39] 3 #[false] #[a0]) (fun v20 w =>
    LiftP Try.prog (binS Go.BinOp.lss 3 (Go.Operand.tmp 18) (Go.Operand.tmp 20) (vs.tail.headD undef) v20) (fun v21 w =>
    CondP v21 (fun w =>
      JoinP (fun J_1 w =>
      DrawP (fun S w =>
      YieldP Try.prog S (Instr.indexAt 39 a0 (vs.tail.headD undef)) (fun v26 w =>
      YieldP Try.prog S (Instr.fieldAt 47 v26 0) (fun v27 w =>
      YieldP Try.prog S (Instr.loadAt 3 v27) (fun v28 w =>
      YieldP Try.prog S (binS Go.BinOp.and 3 (Go.Operand.tmp 28) (Go.Operand.const (Go.Value.int Go.IntKind.i64 1)) v28 (Go.Value.int Go.IntKind.i64 1)) (fun v29 w =>
      YieldP Try.prog S (Instr.indexAt 54 v3 v29) (fun v30 w =>
      YieldP Try.prog S (Instr.loadAt 30 v30) (fun v31 w =>
      YieldP Try.prog S (Instr.indexAt 39 a0 (vs.tail.headD undef)) (fun v34 w =>
      YieldP Try.prog S (Instr.fieldAt 47 v34 1) (fun v35 w =>
      YieldP Try.prog S (Instr.loadAt 3 v35) (fun v36 w =>
      YieldP Try.prog S (Instr.indexAt 39 a0 (vs.tail.headD undef)) (fun v39 w =>
      YieldP Try.prog S (Instr.fieldAt 47 v39 2) (fun v40 w =>
      YieldP Try.prog S (Instr.loadAt 3 v40) (fun v41 w =>
      YieldP Try.prog S (Instr.indexAt 39 a0 (vs.tail.headD undef)) (fun v44 w =>
      YieldP Try.prog S (Instr.fieldAt 47 v44 3) (fun v45 w =>
      YieldP Try.prog S (Instr.loadAt 27 v45) (fun v46 w =>
      ActP S (fun K w => CallP Try.prog 11 #[v31, v36, v41, v46] K w) (fun S v47 w =>
      YieldP Try.prog S (binS Go.BinOp.eql 22 (Go.Operand.tmp 47) (Go.Operand.const (Go.Value.int Go.IntKind.i64 0)) v47 (Go.Value.int Go.IntKind.i64 0)) (fun v48 w =>
      CondP v48 (fun w =>
        LiftP Try.prog (Instr.indexAt 39 a0 (vs.tail.headD undef)) (fun v52 w =>
        LiftP Try.prog (Instr.loadAt 47 v52) (fun v53 w =>
        LiftP Try.prog (Instr.buildSlice 39 1 #[(0, v53)]) (fun v54 w =>
        NextP Try.prog (builtin Go.Builtin.append #[39, 39] 39 #[false, false] #[(vs.headD undef), v54]) (fun v55 w =>
        J_1 [v55] w) w) w) w) w) (fun w =>
        J_1 [(vs.headD undef)] w) w) w) w) w) w) w) w) w) w) w) w) w) w) w) w) w) w) w) w) (fun vs_1 w =>   -- [4]
    JoinP (fun J_2 w =>
      LiftP Try.prog (binS Go.BinOp.rem 3 (Go.Operand.tmp 56) (Go.Operand.const (Go.Value.int Go.IntKind.i64 7)) (vs.tail.headD undef) (Go.Value.int Go.IntKind.i64 7)) (fun v57 w =>
      LiftP Try.prog (binS Go.BinOp.eql 3 (Go.Operand.tmp 57) (Go.Operand.const (Go.Value.int Go.IntKind.i64 6)) v57 (Go.Value.int Go.IntKind.i64 6)) (fun v58 w =>
      CondP v58 (fun w =>
        LiftP Try.prog (Instr.indexAt 54 v3 (Go.Value.int Go.IntKind.i64 0)) (fun v59 w =>
        LiftP Try.prog (Instr.loadAt 30 v59) (fun v60 w =>
        LiftP Try.prog (Instr.indexAt 54 v3 (Go.Value.int Go.IntKind.i64 1)) (fun v61 w =>
        LiftP Try.prog (Instr.loadAt 30 v61) (fun v62 w =>
        CallP Try.prog 21 #[v60, v62] (fun v63 w =>
        LiftP Try.prog (Instr.indexAt 54 v3 (Go.Value.int Go.IntKind.i64 0)) (fun v64 w =>
        LiftU Try.prog (Instr.storeAt 30 v64 v63) (fun v__1 w =>
        J_2 [] w) w) w) w) w) w) w) w) (fun w =>
        J_2 [] w) w) w) w) (fun vs_2 w =>   -- []
    LiftP Try.prog (Instr.indexAt 54 v3 (Go.Value.int Go.IntKind.i64 0)) (fun v65 w =>
    LiftP Try.prog (Instr.loadAt 30 v65) (fun v66 w =>
    LiftP Try.prog (binS Go.BinOp.eql 30 (Go.Operand.tmp 66) (Go.Operand.const (Go.Value.pointer none)) v66 (Go.Value.pointer none)) (fun v67 w =>
    GuardP v67 false (fun K w => LiftP Try.prog (Instr.indexAt 54 v3 (Go.Value.int Go.IntKind.i64 1)) K w) (fun v69 w =>
    GuardP v67 false (fun K w => LiftP Try.prog (Instr.loadAt 30 v69) K w) (fun v70 w =>
    GuardP v67 false (fun K w => LiftP Try.prog (binS Go.BinOp.eql 30 (Go.Operand.tmp 70) (Go.Operand.const (Go.Value.pointer none)) v70 (Go.Value.pointer none)) K w) (fun v71 w =>
    PickP v67 (Go.Value.bool true) v71 (fun v72 w =>
    CondP v72 (fun w =>
      R (Go.Value.bool false) w) (fun w =>
      LiftP Try.prog (binS Go.BinOp.add 3 (Go.Operand.tmp 22) (Go.Operand.const (Go.Value.int Go.IntKind.i64 1)) (vs.tail.headD undef) (Go.Value.int Go.IntKind.i64 1)) (fun v23 w =>
    J [(vs_1.headD undef), v23] w) w) w) w) w) w) w) w) w) w) w) w) (fun w =>
      LiftP Try.prog (Instr.indexAt 54 v3 (Go.Value.int Go.IntKind.i64 0)) (fun v73 w =>
  LiftP Try.prog (Instr.loadAt 30 v73) (fun v74 w =>
  LiftP Try.prog (Instr.indexAt 54 v3 (Go.Value.int Go.IntKind.i64 1)) (fun v75 w =>
  LiftP Try.prog (Instr.loadAt 30 v75) (fun v76 w =>
  CallP Try.prog 21 #[v74, v76] (fun v77 w =>
  LiftP Try.prog (binS Go.BinOp.eql 30 (Go.Operand.tmp 78) (Go.Operand.const (Go.Value.pointer none)) v77 (Go.Value.pointer none)) (fun v79 w =>
  CondP v79 (fun w =>
    R (Go.Value.bool false) w) (fun w =>
    LoopP (fun J_3 vs_3 w =>   -- [7]
    NextP Try.prog (builtin Go.Builtin.len #[39] 3 #[false] #[(vs.headD undef)]) (fun v82 w =>
    LiftP Try.prog (binS Go.BinOp.lss 3 (Go.Operand.tmp 80) (Go.Operand.tmp 82) (vs_3.headD undef) v82) (fun v83 w =>
    CondP v83 (fun w =>
      JoinP (fun J_4 w =>
      DrawP (fun S w =>
      YieldP Try.prog S (Instr.indexAt 39 (vs.headD undef) (vs_3.headD undef)) (fun v90 w =>
      YieldP Try.prog S (Instr.fieldAt 47 v90 1) (fun v91 w =>
      YieldP Try.prog S (Instr.loadAt 3 v91) (fun v92 w =>
      YieldP Try.prog S (Instr.indexAt 39 (vs.headD undef) (vs_3.headD undef)) (fun v95 w =>
      YieldP Try.prog S (Instr.fieldAt 47 v95 2) (fun v96 w =>
      YieldP Try.prog S (Instr.loadAt 3 v96) (fun v97 w =>
      BothP (fun w =>
      ActP S (fun K w => CallP Try.prog 12 #[v77, v92, v97] K w) (fun S v98_1 w =>
      YieldP Try.prog S (Instr.extract v98_1 0) (fun v99_1 w =>
      YieldP Try.prog S (Instr.extract v98_1 1) (fun v100_1 w =>
      ActP S (fun K w => LiftP Try.prog (Instr.alloc 27 true (.tuple #[])) K w) (fun S v8_1 w =>
      ActP S (fun K w => LiftU Try.prog (Instr.storeAt 27 v8_1 v99_1) K w) (fun S v__3 w =>
      J_4 [v100_1] w) w) w) w) w) w) (fun w =>
      BothP (fun w =>
      ActP S (fun K w => LiftP Try.prog (Instr.alloc 27 true (.tuple #[])) K w) (fun S v8 w =>
      ActP S (fun K w => CallP Try.prog 12 #[v77, v92, v97] K w) (fun S v98 w =>
      YieldP Try.prog S (Instr.extract v98 0) (fun v99 w =>
      YieldP Try.prog S (Instr.extract v98 1) (fun v100 w =>
      ActP S (fun K w => LiftU Try.prog (Instr.storeAt 27 v8 v99) K w) (fun S v__2 w =>
      J_4 [v100] w) w) w) w) w) w) (fun w =>
      True) w) w) w) w) w) w) w) w) w) (fun vs_4 w =>   -- [9]
    LiftP Try.prog (binS Go.BinOp.neq 22 (Go.Operand.tmp 101) (Go.Operand.const (Go.Value.int Go.IntKind.i64 0)) (vs_4.headD undef) (Go.Value.int Go.IntKind.i64 0)) (fun v102 w =>
    GuardP v102 true (fun K w => K (vs_4.headD undef) w) (fun v104 w =>
    GuardP v102 true (fun K w => LiftP Try.prog (binS Go.BinOp.neq 22 (Go.Operand.tmp 104) (Go.Operand.const (Go.Value.int Go.IntKind.i64 12)) v104 (Go.Value.int Go.IntKind.i64 12)) K w) (fun v105 w =>
    PickP v102 v105 (Go.Value.bool false) (fun v106 w =>
    CondP v106 (fun w =>
      R (Go.Value.bool false) w) (fun w =>
      LiftP Try.prog (Instr.indexAt 39 (vs.headD undef) (vs_3.headD undef)) (fun v110 w =>
    LiftP Try.prog (Instr.fieldAt 47 v110 1) (fun v111 w =>
    LiftP Try.prog (Instr.loadAt 3 v111) (fun v112 w =>
    CallP Try.prog 20 #[v77, v112] (fun v113 w =>
    NextP Try.prog (builtin Go.Builtin.len #[51] 3 #[false] #[v113]) (fun v114 w =>
    LiftP Try.prog (binS Go.BinOp.gtr 3 (Go.Operand.tmp 114) (Go.Operand.const (Go.Value.int Go.IntKind.i64 4)) v114 (Go.Value.int Go.IntKind.i64 4)) (fun v115 w =>
    CondP v115 (fun w =>
      R (Go.Value.bool false) w) (fun w =>
      LiftP Try.prog (binS Go.BinOp.add 3 (Go.Operand.tmp 84) (Go.Operand.const (Go.Value.int Go.IntKind.i64 1)) (vs_3.headD undef) (Go.Value.int Go.IntKind.i64 1)) (fun v85 w =>
    J_3 [v85] w) w) w) w) w) w) w) w) w) w) w) w) w) w) w) (fun w =>
      R (Go.Value.bool true) w) w) w) w) [(Go.Value.int Go.IntKind.i64 0)] w) w) w) w) w) w) w) w) w) w) w) [(Go.Value.slice none 0 0), (Go.Value.int Go.IntKind.i64 0)] w) w) w) w) w) w) w) w) w) w) w) w
theorem S6.calls (a0 : Value) (R : Value → World → Prop) (w : World) (h : S6 a0 R w) : Calls Try.prog 6 #[a0] w fun e w' => ∃ v, e = .returned v ∧ R v w' :=
  calls_of_tr (n := 116) (c := bodyOf Try.f6) (.two .leaf (.two (.two .leaf (.two (.two .leaf .leaf) .leaf)) (.two (.two .leaf (.two (.two .leaf .leaf) .leaf)) (.two .leaf (.two .leaf (.two (.two .leaf (.one (.loop [4, 5] (.two (.two .leaf (.two .leaf .leaf)) (.two (.one (.join [4] (.two (.draw [(true, 0), (true, 1), (true, 2), (true, 3), (true, 4), (true, 5), (true, 6), (true, 7), (true, 8), (true, 9), (true, 10), (true, 11), (true, 12), (true, 13), (true, 14), (true, 15), (true, 16), (true, 17), (true, 18), (true, 19), (true, 20), (true, 21), (true, 22), (false, 23), (true, 24)]) (.two .leaf .leaf)) (.join [] (.two .leaf (.two .leaf .leaf)) (.two .leaf (.two (.two .leaf .leaf) .leaf))))) .leaf))))) (.two .leaf (.two (.two .leaf (.two (.two .leaf .leaf) .leaf)) (.two (.two .leaf (.one (.loop [7] (.two (.two .leaf (.two .leaf .leaf)) (.two (.one (.two (.join [9] (.drawT (.rd 0 (.rd 1 (.rd 2 (.rd 3 (.rd 4 (.rd 5 (.rd 6 (.rd 7 (.rd 8 (.rd 9 (.rd 10 (.alt 11 (.rd 12 (.rd 13 (.rd 14 (.act 15 (.act 16 (.rd 17 .done)))))) (.alt 15 (.act 11 (.rd 12 (.rd 13 (.rd 14 (.act 16 (.rd 17 .done)))))) .done)))))))))))))) (.two .leaf (.two (.two .leaf .leaf) .leaf))) (.two .leaf (.two (.two .leaf .leaf) .leaf)))) .leaf))))) (.two .leaf .leaf)))))))))) Try.func6 (by kernel_rfl) Try.ntmps6 (by kernel_rfl) (by kernel_rfl) [a0] (by kernel_rfl) (of_eq_ (by kernel_rfl) h)

/-- shelfmark/shelfmarkref17.Join -/
def S22 (a0 a1 : Value) (R : Value → World → Prop) (w : World) : Prop :=
  CallP Try.prog 38 #[a0] (fun v11 w =>
  LoopP (fun J vs w =>   -- [6]
    NextP Try.prog (nilChk a1) (fun v14 w =>
    LiftP Try.prog (Instr.fieldAt 45 v14 1) (fun v15 w =>
    LiftP Try.prog (Instr.loadAt 43 v15) (fun v16 w =>
    NextP Try.prog (builtin Go.Builtin.len #[43] 3 #[false] #[v16]) (fun v17 w =>
    LiftP Try.prog (binS Go.BinOp.lss 3 (Go.Operand.tmp 12) (Go.Operand.tmp 17) (vs.headD undef) v17) (fun v18 w =>
    CondP v18 (fun w =>
      DrawP (fun S w =>
    YieldN Try.prog S (nilChk a1) (fun v23 w =>
    YieldP Try.prog S (Instr.fieldAt 45 v23 1) (fun v24 w =>
    YieldP Try.prog S (Instr.loadAt 43 v24) (fun v25 w =>
    YieldP Try.prog S (Instr.indexAt 43 v25 (vs.headD undef)) (fun v27 w =>
    YieldP Try.prog S (Instr.fieldAt 84 v27 0) (fun v28 w =>
    YieldP Try.prog S (Instr.loadAt 3 v28) (fun v29 w =>
    YieldN Try.prog S (nilChk a1) (fun v31 w =>
    YieldP Try.prog S (Instr.fieldAt 45 v31 1) (fun v32 w =>
    YieldP Try.prog S (Instr.loadAt 43 v32) (fun v33 w =>
    YieldP Try.prog S (Instr.indexAt 43 v33 (vs.headD undef)) (fun v35 w =>
    YieldP Try.prog S (Instr.fieldAt 84 v35 1) (fun v36 w =>
    YieldP Try.prog S (Instr.loadAt 3 v36) (fun v37 w =>
    CallP Try.prog 39 #[v11, v29, v37] (fun v38 w =>
    LiftP Try.prog (binS Go.BinOp.add 3 (Go.Operand.tmp 19) (Go.Operand.const (Go.Value.int Go.IntKind.i64 1)) (vs.headD undef) (Go.Value.int Go.IntKind.i64 1)) (fun v20 w =>
    J [v20] w) w) w) w) w) w) w) w) w) w) w) w) w) w) w) w) (fun w =>
      NextP Try.prog (nilChk a1) (fun v40 w =>
  LiftP Try.prog (Instr.fieldAt 45 v40 0) (fun v41 w =>
  LiftP Try.prog (Instr.loadAt 42 v41) (fun v42 w =>
  NextP Try.prog (builtin Go.Builtin.len #[42] 3 #[false] #[v42]) (fun v43 w =>
  LiftP Try.prog (binS Go.BinOp.sub 3 (Go.Operand.tmp 43) (Go.Operand.const (Go.Value.int Go.IntKind.i64 1)) v43 (Go.Value.int Go.IntKind.i64 1)) (fun v44 w =>
  LoopP (fun J_1 vs_1 w =>   -- [7]
    LiftP Try.prog (binS Go.BinOp.geq 3 (Go.Operand.tmp 45) (Go.Operand.const (Go.Value.int Go.IntKind.i64 0)) (vs_1.headD undef) (Go.Value.int Go.IntKind.i64 0)) (fun v46 w =>
    CondP v46 (fun w =>
      JoinP (fun J_2 w =>
      JoinP (fun J_3 w =>
        DrawP (fun S w =>
        YieldN Try.prog S (nilChk a1) (fun v52 w =>
        YieldP Try.prog S (Instr.fieldAt 45 v52 0) (fun v53 w =>
        YieldP Try.prog S (Instr.loadAt 42 v53) (fun v54 w =>
        YieldP Try.prog S (Instr.indexAt 42 v54 (vs_1.headD undef)) (fun v56 w =>
        YieldP Try.prog S (Instr.fieldAt 73 v56 0) (fun v57 w =>
        YieldP Try.prog S (Instr.loadAt 3 v57) (fun v58 w =>
        YieldN Try.prog S (nilChk a1) (fun v60 w =>
        YieldP Try.prog S (Instr.fieldAt 45 v60 0) (fun v61 w =>
        YieldP Try.prog S (Instr.loadAt 42 v61) (fun v62 w =>
        YieldP Try.prog S (Instr.indexAt 42 v62 (vs_1.headD undef)) (fun v64 w =>
        YieldP Try.prog S (Instr.fieldAt 73 v64 1) (fun v65 w =>
        YieldP Try.prog S (Instr.loadAt 3 v65) (fun v66 w =>
        BothP (fun w =>
        ActP S (fun K w => CallP Try.prog 15 #[v11, v58, v66] K w) (fun S v67_1 w =>
        YieldP Try.prog S (Instr.extract v67_1 0) (fun v68_1 w =>
        YieldP Try.prog S (Instr.extract v67_1 1) (fun v69_1 w =>
        ActP S (fun K w => LiftP Try.prog (Instr.alloc 27 true (.tuple #[])) K w) (fun S v8_1 w =>
        ActP S (fun K w => LiftU Try.prog (Instr.storeAt 27 v8_1 v68_1) K w) (fun S v__1 w =>
        J_3 [v69_1] w) w) w) w) w) w) (fun w =>
        BothP (fun w =>
        ActP S (fun K w => LiftP Try.prog (Instr.alloc 27 true (.tuple #[])) K w) (fun S v8 w =>
        ActP S (fun K w => CallP Try.prog 15 #[v11, v58, v66] K w) (fun S v67 w =>
        YieldP Try.prog S (Instr.extract v67 0) (fun v68 w =>
        YieldP Try.prog S (Instr.extract v67 1) (fun v69 w =>
        ActP S (fun K w => LiftU Try.prog (Instr.storeAt 27 v8 v68) K w) (fun S v_ w =>
        J_3 [v69] w) w) w) w) w) w) (fun w =>
        True) w) w) w) w) w) w) w) w) w) w) w) w) w) w) w) (fun vs_3 w =>   -- [9]
      LiftP Try.prog (binS Go.BinOp.eql 22 (Go.Operand.tmp 70) (Go.Operand.const (Go.Value.int Go.IntKind.i64 7)) (vs_3.headD undef) (Go.Value.int Go.IntKind.i64 7)) (fun v71 w =>
      CondP v71 (fun w =>
        NextP Try.prog (nilChk a1) (fun v74 w =>
        LiftP Try.prog (Instr.fieldAt 45 v74 0) (fun v75 w =>
        LiftP Try.prog (Instr.loadAt 42 v75) (fun v76 w =>
        LiftP Try.prog (Instr.indexAt 42 v76 (vs_1.headD undef)) (fun v78 w =>
        LiftP Try.prog (Instr.loadAt 73 v78) (fun v79 w =>
        CallP Try.prog 34 #[v11, v79] (fun v80 w =>
        J_2 [] w) w) w) w) w) w) w) (fun w =>
        J_2 [] w) w) w) w) (fun vs_2 w =>   -- []
    LiftP Try.prog (binS Go.BinOp.sub 3 (Go.Operand.tmp 47) (Go.Operand.const (Go.Value.int Go.IntKind.i64 1)) (vs_1.headD undef) (Go.Value.int Go.IntKind.i64 1)) (fun v48 w =>
    J_1 [v48] w) w) w) (fun w =>
      R v11 w) w) w) [v44] w) w) w) w) w) w) w) w) w) w) w) w) [(Go.Value.int Go.IntKind.i64 0)] w) w
theorem S22.calls (a0 a1 : Value) (R : Value → World → Prop) (w : World) (h : S22 a0 a1 R w) : Calls Try.prog 22 #[a0, a1] w fun e w' => ∃ v, e = .returned v ∧ R v w' :=
  calls_of_tr (n := 82) (c := bodyOf Try.f22) (.two .leaf (.two .leaf (.two (.two .leaf (.one (.loop [6] (.two (.two .leaf (.two .leaf .leaf)) (.two (.one (.drawL [(true, 0), (true, 1), (true, 2), (true, 3), (true, 4), (true, 5), (true, 6), (true, 7), (true, 8), (true, 9), (true, 10), (true, 11), (true, 12), (true, 13), (true, 14), (true, 15), (true, 16)] 17)) .leaf))))) (.two (.two .leaf (.one (.loop [7] (.two (.two .leaf (.two .leaf .leaf)) (.join [] (.one (.join [9] (.drawT (.rd 0 (.rd 1 (.rd 2 (.rd 3 (.rd 4 (.rd 5 (.rd 6 (.rd 7 (.rd 8 (.rd 9 (.rd 10 (.rd 11 (.rd 12 (.rd 13 (.rd 14 (.rd 15 (.rd 16 (.alt 17 (.rd 18 (.rd 19 (.rd 20 (.act 21 (.act 22 (.rd 23 .done)))))) (.alt 21 (.act 17 (.rd 18 (.rd 19 (.rd 20 (.act 22 (.rd 23 .done)))))) .done)))))))))))))))))))) (.two .leaf (.two .leaf .leaf)))) .leaf))))) (.two .leaf .leaf))))) Try.func22 (by kernel_rfl) Try.ntmps22 (by kernel_rfl) (by kernel_rfl) [a0, a1] (by kernel_rfl) (of_eq_ (by kernel_rfl) h)

end Go.Proofs.Ytmnaggdhkggjhaa.E
