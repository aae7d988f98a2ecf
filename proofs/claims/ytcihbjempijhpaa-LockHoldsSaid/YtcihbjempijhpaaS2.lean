import Derived.Test.YtcihbjempijhpaaM1
import Derived.Test.YtcihbjempijhpaaProg
import Derived.KernelRfl
namespace Go.Proofs.Ytcihbjempijhpaa.E
open Go
set_option maxRecDepth 100000

/-- shelfmark/shelfmarklaw16.awake -/
def S25 (R : Value → World → Prop) (w : World) : Prop :=
  CallP Try.prog 27 #[(Go.Value.int Go.IntKind.i64 2)] (fun v5 w =>
  LiftP Try.prog (binS Go.BinOp.eql 41 (Go.Operand.tmp 6) (Go.Operand.const (Go.Value.pointer none)) v5 (Go.Value.pointer none)) (fun v7 w =>
  CondP v7 (fun w =>
    R (Go.Value.bool false) w) (fun w =>
    LiftP Try.prog (Instr.build 23 #[(0, (Go.Value.string { data := #[97] })), (1, (Go.Value.string { data := #[99] }))]) (fun v9 w =>
  CallP Try.prog 28 #[v5, (Go.Value.int Go.IntKind.i64 5), v9] (fun v10 w =>
  CallP Try.prog 33 #[v5] (fun v12 w =>
  CallP Try.prog 30 #[v5, (Go.Value.string { data := #[98] })] (fun v14 w =>
  CallP Try.prog 54 #[v5, (Go.Value.int Go.IntKind.i64 5)] (fun v16 w =>
  CallP Try.prog 33 #[v5] (fun v18 w =>
  CallP Try.prog 30 #[v5, (Go.Value.string { data := #[98] })] (fun v20 w =>
  CallP Try.prog 33 #[v5] (fun v22 w =>
  LiftP Try.prog (binS Go.BinOp.eql 43 (Go.Operand.tmp 23) (Go.Operand.const (Go.Value.int Go.IntKind.i64 0)) v10 (Go.Value.int Go.IntKind.i64 0)) (fun v24 w =>
  GuardP v24 true (fun K w => K v14 w) (fun v26 w =>
  PickP v24 v26 (Go.Value.bool false) (fun v27 w =>
  GuardP v27 true (fun K w => K v20 w) (fun v29 w =>
  PickP v27 v29 (Go.Value.bool false) (fun v30 w =>
  GuardP v30 true (fun K w => K v5 w) (fun v32 w =>
  GuardP v30 true (fun K w => CallP Try.prog 30 #[v32, (Go.Value.string { data := #[98] })] K w) (fun v33 w =>
  GuardP v30 true (fun K w => LiftP Try.prog (Op.unary Go.UnOp.not v33) K w) (fun v34 w =>
  PickP v30 v34 (Go.Value.bool false) (fun v35 w =>
  R v35 w) w) w) w) w) w) w) w) w) w) w) w) w) w) w) w) w) w) w) w) w
theorem S25.calls (R : Value → World → Prop) (w : World) (h : S25 R w) : Calls Try.prog 25 #[] w fun e w' => ∃ v, e = .returned v ∧ R v w' :=
  calls_of_tr (n := 36) (c := bodyOf Try.f25) (.two .leaf (.two .leaf (.two (.two .leaf (.two (.two .leaf .leaf) .leaf)) (.two .leaf (.two .leaf (.two .leaf (.two .leaf (.two .leaf (.two .leaf (.two .leaf (.two .leaf .leaf))))))))))) Try.func25 (by kernel_rfl) Try.ntmps25 (by kernel_rfl) (by kernel_rfl) [] (by kernel_rfl) (of_eq_ (by kernel_rfl) h)

/-- shelfmark/shelfmarklaw16.light -/
def S26 (a0 : Value) (R : Value → World → Prop) (w : World) : Prop :=
  LoopP (fun J vs w =>   -- [3]
    NextP Try.prog (builtin Go.Builtin.len #[39] 3 #[false] #[a0]) (fun v6 w =>
    LiftP Try.prog (binS Go.BinOp.lss 3 (Go.Operand.tmp 4) (Go.Operand.tmp 6) (vs.headD undef) v6) (fun v7 w =>
    GuardP v7 true (fun K w => K (vs.headD undef) w) (fun v9 w =>
    GuardP v7 true (fun K w => LiftP Try.prog (binS Go.BinOp.lss 3 (Go.Operand.tmp 9) (Go.Operand.const (Go.Value.int Go.IntKind.i64 100)) v9 (Go.Value.int Go.IntKind.i64 100)) K w) (fun v10 w =>
    PickP v7 v10 (Go.Value.bool false) (fun v11 w =>
    CondP v11 (fun w =>
      LiftP Try.prog (Instr.indexAt 39 a0 (vs.headD undef)) (fun v16 w =>
    LiftP Try.prog (Instr.fieldAt 46 v16 2) (fun v17 w =>
    LiftP Try.prog (Instr.loadAt 23 v17) (fun v18 w =>
    LiftP Try.prog (Instr.buildSlice 26 1 #[(0, v18)]) (fun v19 w =>
    CallP Try.prog 11 #[v19, (Go.Value.int Go.IntKind.i64 1)] (fun v20 w =>
    LiftP Try.prog (Op.unary Go.UnOp.not v20) (fun v21 w =>
    CondP v21 (fun w =>
      R (Go.Value.bool false) w) (fun w =>
      LiftP Try.prog (binS Go.BinOp.add 3 (Go.Operand.tmp 12) (Go.Operand.const (Go.Value.int Go.IntKind.i64 1)) (vs.headD undef) (Go.Value.int Go.IntKind.i64 1)) (fun v13 w =>
    J [v13] w) w) w) w) w) w) w) w) w) (fun w =>
      NextP Try.prog (builtin Go.Builtin.len #[39] 3 #[false] #[a0]) (fun v23 w =>
  LiftP Try.prog (binS Go.BinOp.lss 3 (Go.Operand.tmp 23) (Go.Operand.const (Go.Value.int Go.IntKind.i64 100)) v23 (Go.Value.int Go.IntKind.i64 100)) (fun v24 w =>
  R v24 w) w) w) w) w) w) w) w) w) [(Go.Value.int Go.IntKind.i64 0)] w
theorem S26.calls (a0 : Value) (R : Value → World → Prop) (w : World) (h : S26 a0 R w) : Calls Try.prog 26 #[a0] w fun e w' => ∃ v, e = .returned v ∧ R v w' :=
  calls_of_tr (n := 25) (c := bodyOf Try.f26) (.two .leaf (.two (.two .leaf (.one (.loop [3] (.two (.two .leaf (.two .leaf .leaf)) (.two (.one (.two .leaf (.two (.two .leaf .leaf) .leaf))) .leaf))))) (.two .leaf .leaf))) Try.func26 (by kernel_rfl) Try.ntmps26 (by kernel_rfl) (by kernel_rfl) [a0] (by kernel_rfl) (of_eq_ (by kernel_rfl) h)

/-- shelfmark/lock.New -/
def S27 (a0 : Value) (R : Value → World → Prop) (w : World) : Prop :=
  NextP Try.prog (builtin Go.Builtin.max #[3, 3] 3 #[false, true] #[a0, (Go.Value.int Go.IntKind.i64 1)]) (fun v4 w =>
  LiftP Try.prog (Instr.makeMap 70 none) (fun v5 w =>
  LiftP Try.prog (Instr.build 72 #[(0, v4), (1, v5)]) (fun v6 w =>
  LiftP Try.prog (Instr.box 72 v6) (fun v7 w =>
  R v7 w) w) w) w) w
theorem S27.calls (a0 : Value) (R : Value → World → Prop) (w : World) (h : S27 a0 R w) : Calls Try.prog 27 #[a0] w fun e w' => ∃ v, e = .returned v ∧ R v w' :=
  calls_of_tr (n := 8) (c := bodyOf Try.f27) (.two .leaf (.two .leaf .leaf)) Try.func27 (by kernel_rfl) Try.ntmps27 (by kernel_rfl) (by kernel_rfl) [a0] (by kernel_rfl) (of_eq_ (by kernel_rfl) h)

/-- (*shelfmark/lock.Table).Take -/
def S28 (a0 a1 a2 : Value) (R : Value → World → Prop) (w : World) : Prop :=
  LiftP Try.prog (Instr.box 23 a2) (fun v5 w =>
  LiftP Try.prog (binS Go.BinOp.lss 3 (Go.Operand.tmp 7) (Go.Operand.const (Go.Value.int Go.IntKind.i64 1)) a1 (Go.Value.int Go.IntKind.i64 1)) (fun v8 w =>
  GuardP v8 false (fun K w => LiftP Try.prog (Instr.loadAt 23 v5) K w) (fun v10 w =>
  GuardP v8 false (fun K w => CallP Try.prog 14 #[v10] K w) (fun v11 w =>
  PickP v8 (Go.Value.bool true) v11 (fun v12 w =>
  CondP v12 (fun w =>
    R (Go.Value.int Go.IntKind.i64 1) w) (fun w =>
    JoinP (fun J w =>
    NextP Try.prog (nilChk a0) (fun v14 w =>
    LiftP Try.prog (Instr.fieldAt 72 v14 1) (fun v15 w =>
    LiftP Try.prog (Instr.loadAt 70 v15) (fun v16 w =>
    LiftP Try.prog (Instr.lookup 70 v16 a1 false) (fun v18 w =>
    LiftP Try.prog (binS Go.BinOp.eql 73 (Go.Operand.tmp 18) (Go.Operand.const (Go.Value.pointer none)) v18 (Go.Value.pointer none)) (fun v19 w =>
    CondP v19 (fun w =>
      NextP Try.prog (nilChk a0) (fun v21 w =>
      LiftP Try.prog (Instr.fieldAt 72 v21 1) (fun v22 w =>
      LiftP Try.prog (Instr.loadAt 70 v22) (fun v23 w =>
      LiftP Try.prog (Instr.build 75 #[]) (fun v25 w =>
      LiftP Try.prog (Instr.box 75 v25) (fun v26 w =>
      LiftU Try.prog (Instr.mapUpdate 70 v23 a1 v26) (fun v_ w =>
      J [] w) w) w) w) w) w) w) (fun w =>
      J [] w) w) w) w) w) w) w) (fun vs w =>   -- []
  DrawP (fun S w =>
  YieldN Try.prog S (nilChk a0) (fun v28 w =>
  YieldP Try.prog S (Instr.fieldAt 72 v28 1) (fun v29 w =>
  YieldP Try.prog S (Instr.loadAt 70 v29) (fun v30 w =>
  YieldP Try.prog S (Instr.lookup 70 v30 a1 false) (fun v32 w =>
  YieldN Try.prog S (nilChk a0) (fun v34 w =>
  YieldP Try.prog S (Instr.fieldAt 72 v34 1) (fun v35 w =>
  YieldP Try.prog S (Instr.loadAt 70 v35) (fun v36 w =>
  YieldP Try.prog S (Instr.lookup 70 v36 a1 false) (fun v38 w =>
  YieldN Try.prog S (nilChk v38) (fun v39 w =>
  YieldP Try.prog S (Instr.fieldAt 75 v39 0) (fun v40 w =>
  YieldP Try.prog S (Instr.loadAt 26 v40) (fun v41 w =>
  YieldP Try.prog S (Instr.loadAt 23 v5) (fun v42 w =>
  ActP S (fun K w => LiftP Try.prog (Instr.buildSlice 26 1 #[(0, v42)]) K w) (fun S v43 w =>
  ActP S (fun K w => NextP Try.prog (builtin Go.Builtin.append #[26, 26] 26 #[false, false] #[v41, v43]) K w) (fun S v44 w =>
  ActP S (fun K w => CallP Try.prog 18 #[v44] K w) (fun S v45 w =>
  YieldN Try.prog S (nilChk v32) (fun v46 w =>
  YieldP Try.prog S (Instr.fieldAt 75 v46 0) (fun v47 w =>
  LiftU Try.prog (Instr.storeAt 26 v47 v45) (fun v__1 w =>
  CallP Try.prog 54 #[a0, a1] (fun v50 w =>
  R (Go.Value.int Go.IntKind.i64 0) w) w) w) w) w) w) w) w) w) w) w) w) w) w) w) w) w) w) w) w) w) w) w) w) w) w) w) w
theorem S28.calls (a0 a1 a2 : Value) (R : Value → World → Prop) (w : World) (h : S28 a0 a1 a2 R w) : Calls Try.prog 28 #[a0, a1, a2] w fun e w' => ∃ v, e = .returned v ∧ R v w' :=
  calls_of_tr (n := 51) (c := bodyOf Try.f28) (.two .leaf (.two (.two .leaf (.two (.two .leaf .leaf) .leaf)) (.join [] (.two .leaf (.two .leaf .leaf)) (.two (.drawL [(true, 0), (true, 1), (true, 2), (true, 3), (true, 4), (true, 5), (true, 6), (true, 7), (true, 8), (true, 9), (true, 10), (true, 11), (true, 12), (true, 13), (true, 14), (true, 15), (false, 16), (false, 17), (false, 18), (true, 19), (true, 20)] 21) (.two .leaf (.two .leaf .leaf)))))) Try.func28 (by kernel_rfl) Try.ntmps28 (by kernel_rfl) (by kernel_rfl) [a0, a1, a2] (by kernel_rfl) (of_eq_ (by kernel_rfl) h)

/-- (*shelfmark/lock.Table).Holds -/
def S29 (a0 a1 a2 : Value) (R : Value → World → Prop) (w : World) : Prop :=
  LiftP Try.prog (Instr.box 23 a2) (fun v5 w =>
  NextP Try.prog (nilChk a0) (fun v9 w =>
  LiftP Try.prog (Instr.fieldAt 72 v9 1) (fun v10 w =>
  LiftP Try.prog (Instr.loadAt 70 v10) (fun v11 w =>
  LiftP Try.prog (Instr.lookup 70 v11 a1 false) (fun v13 w =>
  DrawP (fun S w =>
  YieldP Try.prog S (binS Go.BinOp.neq 73 (Go.Operand.tmp 14) (Go.Operand.const (Go.Value.pointer none)) v13 (Go.Value.pointer none)) (fun v15 w =>
  GuardP v15 true (fun K w => K v13 w) (fun v17 w =>
  GuardP v15 true (fun K w => YieldN Try.prog S (nilChk v17) K w) (fun v18 w =>
  GuardP v15 true (fun K w => YieldP Try.prog S (Instr.fieldAt 75 v18 0) K w) (fun v19 w =>
  GuardP v15 true (fun K w => YieldP Try.prog S (Instr.loadAt 26 v19) K w) (fun v20 w =>
  GuardP v15 true (fun K w => YieldP Try.prog S (Instr.loadAt 23 v5) K w) (fun v21 w =>
  GuardA v15 true S (fun K w => CallP Try.prog 23 #[v20, v21] K w) (fun S v22 w =>
  PickP v15 v22 (Go.Value.bool false) (fun v23 w =>
  R v23 w) w) w) w) w) w) w) w) w) w) w) w) w) w) w
theorem S29.calls (a0 a1 a2 : Value) (R : Value → World → Prop) (w : World) (h : S29 a0 a1 a2 R w) : Calls Try.prog 29 #[a0, a1, a2] w fun e w' => ∃ v, e = .returned v ∧ R v w' :=
  calls_of_tr (n := 24) (c := bodyOf Try.f29) (.two .leaf (.two .leaf (.two (.draw [(true, 0), (true, 1), (true, 2), (true, 3), (true, 4), (true, 5), (true, 6), (true, 7), (false, 8), (true, 9), (true, 10)]) .leaf))) Try.func29 (by kernel_rfl) Try.ntmps29 (by kernel_rfl) (by kernel_rfl) [a0, a1, a2] (by kernel_rfl) (of_eq_ (by kernel_rfl) h)

/-- (*shelfmark/lock.Table).Blocks -/
def S30 (a0 a1 : Value) (R : Value → World → Prop) (w : World) : Prop :=
  LiftP Try.prog (Instr.box 9 a1) (fun v3 w =>
  NextP Try.prog (nilChk a0) (fun v8 w =>
  LiftP Try.prog (Instr.fieldAt 72 v8 1) (fun v9 w =>
  LiftP Try.prog (Instr.loadAt 70 v9) (fun v10 w =>
  LiftP Try.prog (Instr.range 70 v10) (fun v11 w =>
  LoopP (fun J vs w =>   -- []
    LiftP Try.prog (Instr.next v11 false 0) (fun v12 w =>
    LiftP Try.prog (Instr.extract v12 0) (fun v13 w =>
    CondP v13 (fun w =>
      LiftP Try.prog (Instr.entry v11) (fun v14 w =>
    LiftP Try.prog (Instr.extract v14 1) (fun v15 w =>
    NextP Try.prog (nilChk v15) (fun v17 w =>
    LiftP Try.prog (Instr.fieldAt 75 v17 0) (fun v18 w =>
    LiftP Try.prog (Instr.loadAt 26 v18) (fun v19 w =>
    LiftP Try.prog (Instr.makeFunc (Go.Fn.func 55) #[] #[v3]) (fun v20 w =>
    CallP Try.prog 52 #[v19, v20] (fun v21 w =>
    CondP v21 (fun w =>
      R (Go.Value.bool true) w) (fun w =>
      J [] w) w) w) w) w) w) w) w) w) (fun w =>
      R (Go.Value.bool false) w) w) w) w) [] w) w) w) w) w) w
theorem S30.calls (a0 a1 : Value) (R : Value → World → Prop) (w : World) (h : S30 a0 a1 R w) : Calls Try.prog 30 #[a0, a1] w fun e w' => ∃ v, e = .returned v ∧ R v w' :=
  calls_of_tr (n := 22) (c := bodyOf Try.f30) (.two .leaf (.two (.two .leaf (.one (.loop [] (.two .leaf (.two (.two .leaf .leaf) (.one (.two .leaf (.two .leaf (.two (.two .leaf .leaf) .leaf))))))))) (.two .leaf .leaf))) Try.func30 (by kernel_rfl) Try.ntmps30 (by kernel_rfl) (by kernel_rfl) [a0, a1] (by kernel_rfl) (of_eq_ (by kernel_rfl) h)

/-- shelfmark/shelfmarklaw16.do -/
def S31 (a0 a1 a2 : Value) (R : Value → World → Prop) (w : World) : Prop :=
  LiftP Try.prog (Instr.box 46 a2) (fun v5 w =>
  JoinP (fun J w =>
    LiftP Try.prog (Instr.fieldAt 46 v5 0) (fun v7 w =>
    LiftP Try.prog (Instr.loadAt 3 v7) (fun v8 w =>
    LiftP Try.prog (binS Go.BinOp.eql 3 (Go.Operand.tmp 8) (Go.Operand.const (Go.Value.int Go.IntKind.i64 1)) v8 (Go.Value.int Go.IntKind.i64 1)) (fun v10 w =>
    CondP v10 (fun w =>
      DrawP (fun S w =>
      YieldP Try.prog S (Instr.fieldAt 46 v5 1) (fun v12 w =>
      YieldP Try.prog S (Instr.loadAt 3 v12) (fun v13 w =>
      YieldP Try.prog S (Instr.fieldAt 46 v5 2) (fun v14 w =>
      YieldP Try.prog S (Instr.loadAt 23 v14) (fun v15 w =>
      YieldP Try.prog S (Instr.fieldAt 46 v5 1) (fun v18 w =>
      YieldP Try.prog S (Instr.loadAt 3 v18) (fun v19 w =>
      YieldP Try.prog S (Instr.fieldAt 46 v5 2) (fun v20 w =>
      YieldP Try.prog S (Instr.loadAt 23 v20) (fun v21 w =>
      ActP S (fun K w => CallP Try.prog 28 #[a0, v13, v15] K w) (fun S v16 w =>
      ActP S (fun K w => CallP Try.prog 56 #[a1, v19, v21] K w) (fun S v22 w =>
      YieldP Try.prog S (binS Go.BinOp.eql 43 (Go.Operand.tmp 16) (Go.Operand.tmp 22) v16 v22) (fun v23 w =>
      R v23 w) w) w) w) w) w) w) w) w) w) w) w) w) (fun w =>
      LiftP Try.prog (binS Go.BinOp.eql 3 (Go.Operand.tmp 8) (Go.Operand.const (Go.Value.int Go.IntKind.i64 2)) v8 (Go.Value.int Go.IntKind.i64 2)) (fun v25 w =>
      CondP v25 (fun w =>
        DrawP (fun S w =>
        YieldP Try.prog S (Instr.fieldAt 46 v5 1) (fun v27 w =>
        YieldP Try.prog S (Instr.loadAt 3 v27) (fun v28 w =>
        YieldP Try.prog S (Instr.fieldAt 46 v5 1) (fun v31 w =>
        YieldP Try.prog S (Instr.loadAt 3 v31) (fun v32 w =>
        ActP S (fun K w => CallP Try.prog 54 #[a0, v28] K w) (fun S v29 w =>
        ActP S (fun K w => CallP Try.prog 57 #[a1, v32] K w) (fun S v33 w =>
        YieldP Try.prog S (binS Go.BinOp.eql 4 (Go.Operand.tmp 29) (Go.Operand.tmp 33) v29 v33) (fun v34 w =>
        R v34 w) w) w) w) w) w) w) w) w) (fun w =>
        LiftP Try.prog (binS Go.BinOp.eql 3 (Go.Operand.tmp 8) (Go.Operand.const (Go.Value.int Go.IntKind.i64 3)) v8 (Go.Value.int Go.IntKind.i64 3)) (fun v36 w =>
        CondP v36 (fun w =>
          DrawP (fun S w =>
          YieldP Try.prog S (Instr.fieldAt 46 v5 1) (fun v38 w =>
          YieldP Try.prog S (Instr.loadAt 3 v38) (fun v39 w =>
          YieldP Try.prog S (Instr.fieldAt 46 v5 1) (fun v42 w =>
          YieldP Try.prog S (Instr.loadAt 3 v42) (fun v43 w =>
          ActP S (fun K w => CallP Try.prog 34 #[a0, v39] K w) (fun S v40 w =>
          ActP S (fun K w => CallP Try.prog 58 #[a1, v43] K w) (fun S v44 w =>
          YieldP Try.prog S (binS Go.BinOp.eql 4 (Go.Operand.tmp 40) (Go.Operand.tmp 44) v40 v44) (fun v45 w =>
          R v45 w) w) w) w) w) w) w) w) w) (fun w =>
          LiftP Try.prog (binS Go.BinOp.eql 3 (Go.Operand.tmp 8) (Go.Operand.const (Go.Value.int Go.IntKind.i64 4)) v8 (Go.Value.int Go.IntKind.i64 4)) (fun v47 w =>
          CondP v47 (fun w =>
            CallP Try.prog 33 #[a0] (fun v49 w =>
            CallP Try.prog 59 #[a1] (fun v51 w =>
            J [] w) w) w) (fun w =>
            LiftP Try.prog (binS Go.BinOp.eql 3 (Go.Operand.tmp 8) (Go.Operand.const (Go.Value.int Go.IntKind.i64 5)) v8 (Go.Value.int Go.IntKind.i64 5)) (fun v53 w =>
            CondP v53 (fun w =>
              LiftP Try.prog (Instr.fieldAt 46 v5 2) (fun v55 w =>
              LiftP Try.prog (Instr.loadAt 23 v55) (fun v56 w =>
              CallP Try.prog 36 #[a0, v56] (fun v57 w =>
              LiftP Try.prog (Instr.fieldAt 46 v5 2) (fun v59 w =>
              LiftP Try.prog (Instr.loadAt 23 v59) (fun v60 w =>
              CallP Try.prog 60 #[a1, v60] (fun v61 w =>
              J [] w) w) w) w) w) w) w) (fun w =>
              J [] w) w) w) w) w) w) w) w) w) w) w) w) w) (fun vs w =>   -- []
  R (Go.Value.bool true) w) w) w
theorem S31.calls (a0 a1 a2 : Value) (R : Value → World → Prop) (w : World) (h : S31 a0 a1 a2 R w) : Calls Try.prog 31 #[a0, a1, a2] w fun e w' => ∃ v, e = .returned v ∧ R v w' :=
  calls_of_tr (n := 62) (c := bodyOf Try.f31) (.two .leaf (.join [] (.two .leaf (.one (.two .leaf (.two (.two (.draw [(true, 0), (true, 1), (true, 2), (true, 3), (true, 4), (true, 6), (true, 7), (true, 8), (true, 9), (true, 10), (false, 5), (false, 11), (true, 12), (true, 13)]) .leaf) (.two .leaf (.two (.two (.draw [(true, 0), (true, 1), (true, 2), (true, 4), (true, 5), (true, 6), (false, 3), (false, 7), (true, 8), (true, 9)]) .leaf) (.two .leaf (.two (.two (.draw [(true, 0), (true, 1), (true, 2), (true, 4), (true, 5), (true, 6), (false, 3), (false, 7), (true, 8), (true, 9)]) .leaf) (.two .leaf (.two (.two .leaf .leaf) (.two .leaf (.two (.two .leaf .leaf) .leaf)))))))))))) (.two .leaf .leaf))) Try.func31 (by kernel_rfl) Try.ntmps31 (by kernel_rfl) (by kernel_rfl) [a0, a1, a2] (by kernel_rfl) (of_eq_ (by kernel_rfl) h)

/-- shelfmark/shelfmarkref16.New -/
def S32 (a0 : Value) (R : Value → World → Prop) (w : World) : Prop :=
  JoinP (fun J w =>
    LiftP Try.prog (binS Go.BinOp.lss 3 (Go.Operand.tmp 3) (Go.Operand.const (Go.Value.int Go.IntKind.i64 1)) a0 (Go.Value.int Go.IntKind.i64 1)) (fun v4 w =>
    CondP v4 (fun w =>
      J [(Go.Value.int Go.IntKind.i64 1)] w) (fun w =>
      J [a0] w) w) w) (fun vs w =>   -- [0]
  LiftP Try.prog (Instr.build 78 #[(0, (vs.headD undef))]) (fun v6 w =>
  LiftP Try.prog (Instr.box 78 v6) (fun v7 w =>
  R v7 w) w) w) w
theorem S32.calls (a0 : Value) (R : Value → World → Prop) (w : World) (h : S32 a0 R w) : Calls Try.prog 32 #[a0] w fun e w' => ∃ v, e = .returned v ∧ R v w' :=
  calls_of_tr (n := 8) (c := bodyOf Try.f32) (.two .leaf (.join [0] (.two .leaf (.two .leaf .leaf)) (.two .leaf .leaf))) Try.func32 (by kernel_rfl) Try.ntmps32 (by kernel_rfl) (by kernel_rfl) [a0] (by kernel_rfl) (of_eq_ (by kernel_rfl) h)

/-- (*shelfmark/lock.Table).Tick -/
def S33 (a0 : Value) (R : Value → World → Prop) (w : World) : Prop :=
  NextP Try.prog (nilChk a0) (fun v5 w =>
  LiftP Try.prog (Instr.fieldAt 72 v5 1) (fun v6 w =>
  LiftP Try.prog (Instr.loadAt 70 v6) (fun v7 w =>
  LiftP Try.prog (Instr.range 70 v7) (fun v8 w =>
  LoopP (fun J vs w =>   -- []
    LiftP Try.prog (Instr.next v8 false 0) (fun v9 w =>
    LiftP Try.prog (Instr.extract v9 0) (fun v10 w =>
    CondP v10 (fun w =>
      LiftP Try.prog (Instr.entry v8) (fun v11 w =>
    LiftP Try.prog (Instr.extract v11 1) (fun v12 w =>
    NextP Try.prog (nilChk v12) (fun v14 w =>
    LiftP Try.prog (Instr.fieldAt 75 v14 1) (fun v15 w =>
    LiftP Try.prog (Instr.loadAt 3 v15) (fun v16 w =>
    LiftP Try.prog (binS Go.BinOp.sub 3 (Go.Operand.tmp 16) (Go.Operand.const (Go.Value.int Go.IntKind.i64 1)) v16 (Go.Value.int Go.IntKind.i64 1)) (fun v17 w =>
    NextP Try.prog (nilChk v12) (fun v18 w =>
    LiftP Try.prog (Instr.fieldAt 75 v18 1) (fun v19 w =>
    LiftU Try.prog (Instr.storeAt 3 v19 v17) (fun v_ w =>
    J [] w) w) w) w) w) w) w) w) w) w) (fun w =>
      CallP Try.prog 61 #[a0] (fun v21 w =>
  R (.tuple #[]) w) w) w) w) w) [] w) w) w) w) w
theorem S33.calls (a0 : Value) (R : Value → World → Prop) (w : World) (h : S33 a0 R w) : Calls Try.prog 33 #[a0] w fun e w' => ∃ v, e = .returned v ∧ R v w' :=
  calls_of_tr (n := 22) (c := bodyOf Try.f33) (.two (.two .leaf (.one (.loop [] (.two .leaf (.two (.two .leaf .leaf) (.one (.two .leaf .leaf))))))) .leaf) Try.func33 (by kernel_rfl) Try.ntmps33 (by kernel_rfl) (by kernel_rfl) [a0] (by kernel_rfl) (of_eq_ (by kernel_rfl) h)

/-- (*shelfmark/lock.Table).Free -/
def S34 (a0 a1 : Value) (R : Value → World → Prop) (w : World) : Prop :=
  NextP Try.prog (nilChk a0) (fun v9 w =>
  LiftP Try.prog (Instr.fieldAt 72 v9 1) (fun v10 w =>
  LiftP Try.prog (Instr.loadAt 70 v10) (fun v11 w =>
  LiftP Try.prog (Instr.lookup 70 v11 a1 true) (fun v13 w =>
  LiftP Try.prog (Instr.extract v13 0) (fun v14 w =>
  LiftP Try.prog (Instr.extract v13 1) (fun v15 w =>
  NextP Try.prog (nilChk a0) (fun v17 w =>
  LiftP Try.prog (Instr.fieldAt 72 v17 1) (fun v18 w =>
  LiftP Try.prog (Instr.loadAt 70 v18) (fun v19 w =>
  NextP Try.prog (builtin Go.Builtin.delete #[70, 3] 0 #[false, false] #[v19, a1]) (fun v_ w =>
  R v15 w) w) w) w) w) w) w) w) w) w) w
theorem S34.calls (a0 a1 : Value) (R : Value → World → Prop) (w : World) (h : S34 a0 a1 R w) : Calls Try.prog 34 #[a0, a1] w fun e w' => ∃ v, e = .returned v ∧ R v w' :=
  calls_of_tr (n := 22) (c := bodyOf Try.f34) (.two .leaf (.two .leaf (.two .leaf (.two .leaf .leaf)))) Try.func34 (by kernel_rfl) Try.ntmps34 (by kernel_rfl) (by kernel_rfl) [a0, a1] (by kernel_rfl) (of_eq_ (by kernel_rfl) h)

/-- (*shelfmark/lock.Table).Ranges -/
def S35 (a0 a1 : Value) (R : Value → World → Prop) (w : World) : Prop :=
  NextP Try.prog (nilChk a0) (fun v7 w =>
  LiftP Try.prog (Instr.fieldAt 72 v7 1) (fun v8 w =>
  LiftP Try.prog (Instr.loadAt 70 v8) (fun v9 w =>
  LiftP Try.prog (Instr.lookup 70 v9 a1 false) (fun v11 w =>
  LiftP Try.prog (binS Go.BinOp.neq 73 (Go.Operand.tmp 12) (Go.Operand.const (Go.Value.pointer none)) v11 (Go.Value.pointer none)) (fun v13 w =>
  CondP v13 (fun w =>
    NextP Try.prog (nilChk v11) (fun v15 w =>
    LiftP Try.prog (Instr.fieldAt 75 v15 0) (fun v16 w =>
    LiftP Try.prog (Instr.loadAt 26 v16) (fun v17 w =>
    CallP Try.prog 47 #[v17] (fun v18 w =>
    R v18 w) w) w) w) w) (fun w =>
    R (Go.Value.slice none 0 0) w) w) w) w) w) w) w
theorem S35.calls (a0 a1 : Value) (R : Value → World → Prop) (w : World) (h : S35 a0 a1 R w) : Calls Try.prog 35 #[a0, a1] w fun e w' => ∃ v, e = .returned v ∧ R v w' :=
  calls_of_tr (n := 19) (c := bodyOf Try.f35) (.two .leaf (.two (.two .leaf (.two .leaf (.two (.two .leaf .leaf) .leaf))) (.two .leaf .leaf))) Try.func35 (by kernel_rfl) Try.ntmps35 (by kernel_rfl) (by kernel_rfl) [a0, a1] (by kernel_rfl) (of_eq_ (by kernel_rfl) h)

/-- (*shelfmark/lock.Table).Lose -/
def S36 (a0 a1 : Value) (R : Value → World → Prop) (w : World) : Prop :=
  LiftP Try.prog (Instr.box 23 a1) (fun v3 w =>
  NextP Try.prog (nilChk a0) (fun v7 w =>
  LiftP Try.prog (Instr.fieldAt 72 v7 1) (fun v8 w =>
  LiftP Try.prog (Instr.loadAt 70 v8) (fun v9 w =>
  LiftP Try.prog (Instr.range 70 v9) (fun v10 w =>
  LoopP (fun J vs w =>   -- []
    LiftP Try.prog (Instr.next v10 false 0) (fun v11 w =>
    LiftP Try.prog (Instr.extract v11 0) (fun v12 w =>
    CondP v12 (fun w =>
      LiftP Try.prog (Instr.entry v10) (fun v13 w =>
    LiftP Try.prog (Instr.extract v13 1) (fun v14 w =>
    DrawP (fun S w =>
    YieldN Try.prog S (nilChk v14) (fun v17 w =>
    YieldP Try.prog S (Instr.fieldAt 75 v17 0) (fun v18 w =>
    YieldP Try.prog S (Instr.loadAt 26 v18) (fun v19 w =>
    YieldP Try.prog S (Instr.loadAt 23 v3) (fun v20 w =>
    ActP S (fun K w => CallP Try.prog 19 #[v19, v20] K w) (fun S v21 w =>
    YieldN Try.prog S (nilChk v14) (fun v22 w =>
    YieldP Try.prog S (Instr.fieldAt 75 v22 0) (fun v23 w =>
    LiftU Try.prog (Instr.storeAt 26 v23 v21) (fun v_ w =>
    J [] w) w) w) w) w) w) w) w) w) w) w) w) (fun w =>
      CallP Try.prog 61 #[a0] (fun v25 w =>
  R (.tuple #[]) w) w) w) w) w) [] w) w) w) w) w) w
theorem S36.calls (a0 a1 : Value) (R : Value → World → Prop) (w : World) (h : S36 a0 a1 R w) : Calls Try.prog 36 #[a0, a1] w fun e w' => ∃ v, e = .returned v ∧ R v w' :=
  calls_of_tr (n := 26) (c := bodyOf Try.f36) (.two .leaf (.two (.two .leaf (.one (.loop [] (.two .leaf (.two (.two .leaf .leaf) (.one (.two .leaf (.drawL [(true, 0), (true, 1), (true, 2), (true, 3), (true, 4), (true, 5), (false, 6), (true, 7), (true, 8)] 9)))))))) .leaf)) Try.func36 (by kernel_rfl) Try.ntmps36 (by kernel_rfl) (by kernel_rfl) [a0, a1] (by kernel_rfl) (of_eq_ (by kernel_rfl) h)

/-- (*shelfmark/lock.Table).Ids -/
def S37 (a0 : Value) (R : Value → World → Prop) (w : World) : Prop :=
  NextP Try.prog (nilChk a0) (fun v4 w =>
  LiftP Try.prog (Instr.fieldAt 72 v4 1) (fun v5 w =>
  LiftP Try.prog (Instr.loadAt 70 v5) (fun v6 w =>
  CallP Try.prog 63 #[v6] (fun v7 w =>
  CallP Try.prog 62 #[v7] (fun v8 w =>
  R v8 w) w) w) w) w) w
theorem S37.calls (a0 : Value) (R : Value → World → Prop) (w : World) (h : S37 a0 R w) : Calls Try.prog 37 #[a0] w fun e w' => ∃ v, e = .returned v ∧ R v w' :=
  calls_of_tr (n := 9) (c := bodyOf Try.f37) (.two .leaf (.two .leaf .leaf)) Try.func37 (by kernel_rfl) Try.ntmps37 (by kernel_rfl) (by kernel_rfl) [a0] (by kernel_rfl) (of_eq_ (by kernel_rfl) h)

/-- (*shelfmark/shelfmarkref16.Table).Blocks -/
def S38 (a0 a1 : Value) (R : Value → World → Prop) (w : World) : Prop :=
  LoopP (fun J vs w =>   -- [5]
    NextP Try.prog (nilChk a0) (fun v8 w =>
    LiftP Try.prog (Instr.fieldAt 78 v8 2) (fun v9 w =>
    LiftP Try.prog (Instr.loadAt 76 v9) (fun v10 w =>
    NextP Try.prog (builtin Go.Builtin.len #[76] 3 #[false] #[v10]) (fun v11 w =>
    LiftP Try.prog (binS Go.BinOp.lss 3 (Go.Operand.tmp 6) (Go.Operand.tmp 11) (vs.headD undef) v11) (fun v12 w =>
    CondP v12 (fun w =>
      NextP Try.prog (nilChk a0) (fun v16 w =>
    LiftP Try.prog (Instr.fieldAt 78 v16 2) (fun v17 w =>
    LiftP Try.prog (Instr.loadAt 76 v17) (fun v18 w =>
    LiftP Try.prog (Instr.indexAt 76 v18 (vs.headD undef)) (fun v20 w =>
    LiftP Try.prog (Instr.fieldAt 85 v20 1) (fun v21 w =>
    LiftP Try.prog (Instr.loadAt 26 v21) (fun v22 w =>
    CallP Try.prog 51 #[v22, a1] (fun v24 w =>
    CondP v24 (fun w =>
      R (Go.Value.bool true) w) (fun w =>
      LiftP Try.prog (binS Go.BinOp.add 3 (Go.Operand.tmp 13) (Go.Operand.const (Go.Value.int Go.IntKind.i64 1)) (vs.headD undef) (Go.Value.int Go.IntKind.i64 1)) (fun v14 w =>
    J [v14] w) w) w) w) w) w) w) w) w) w) (fun w =>
      R (Go.Value.bool false) w) w) w) w) w) w) w) [(Go.Value.int Go.IntKind.i64 0)] w
theorem S38.calls (a0 a1 : Value) (R : Value → World → Prop) (w : World) (h : S38 a0 a1 R w) : Calls Try.prog 38 #[a0, a1] w fun e w' => ∃ v, e = .returned v ∧ R v w' :=
  calls_of_tr (n := 25) (c := bodyOf Try.f38) (.two .leaf (.two (.two .leaf (.one (.loop [5] (.two (.two .leaf (.two .leaf .leaf)) (.two (.one (.two .leaf (.two (.two .leaf .leaf) .leaf))) .leaf))))) (.two .leaf .leaf))) Try.func38 (by kernel_rfl) Try.ntmps38 (by kernel_rfl) (by kernel_rfl) [a0, a1] (by kernel_rfl) (of_eq_ (by kernel_rfl) h)

/-- (*shelfmark/shelfmarkref16.Table).Holds -/
def S39 (a0 a1 a2 : Value) (R : Value → World → Prop) (w : World) : Prop :=
  LiftP Try.prog (Instr.box 23 a2) (fun v5 w =>
  CallP Try.prog 64 #[a0, a1] (fun v10 w =>
  DrawP (fun S w =>
  YieldP Try.prog S (binS Go.BinOp.geq 3 (Go.Operand.tmp 11) (Go.Operand.const (Go.Value.int Go.IntKind.i64 0)) v10 (Go.Value.int Go.IntKind.i64 0)) (fun v12 w =>
  GuardP v12 true (fun K w => K a0 w) (fun v14 w =>
  GuardP v12 true (fun K w => YieldN Try.prog S (nilChk v14) K w) (fun v15 w =>
  GuardP v12 true (fun K w => YieldP Try.prog S (Instr.fieldAt 78 v15 2) K w) (fun v16 w =>
  GuardP v12 true (fun K w => YieldP Try.prog S (Instr.loadAt 76 v16) K w) (fun v17 w =>
  GuardP v12 true (fun K w => K v10 w) (fun v18 w =>
  GuardP v12 true (fun K w => YieldP Try.prog S (Instr.indexAt 76 v17 v18) K w) (fun v19 w =>
  GuardP v12 true (fun K w => YieldP Try.prog S (Instr.fieldAt 85 v19 1) K w) (fun v20 w =>
  GuardP v12 true (fun K w => YieldP Try.prog S (Instr.loadAt 26 v20) K w) (fun v21 w =>
  GuardP v12 true (fun K w => YieldP Try.prog S (Instr.loadAt 23 v5) K w) (fun v22 w =>
  GuardA v12 true S (fun K w => CallP Try.prog 24 #[v21, v22] K w) (fun S v23 w =>
  PickP v12 v23 (Go.Value.bool false) (fun v24 w =>
  R v24 w) w) w) w) w) w) w) w) w) w) w) w) w) w) w) w
theorem S39.calls (a0 a1 a2 : Value) (R : Value → World → Prop) (w : World) (h : S39 a0 a1 a2 R w) : Calls Try.prog 39 #[a0, a1, a2] w fun e w' => ∃ v, e = .returned v ∧ R v w' :=
  calls_of_tr (n := 25) (c := bodyOf Try.f39) (.two .leaf (.two .leaf (.two (.draw [(true, 0), (true, 1), (true, 2), (true, 3), (true, 4), (true, 5), (true, 6), (true, 7), (true, 8), (true, 9), (true, 10), (true, 11), (false, 12), (true, 13), (true, 14)]) .leaf))) Try.func39 (by kernel_rfl) Try.ntmps39 (by kernel_rfl) (by kernel_rfl) [a0, a1, a2] (by kernel_rfl) (of_eq_ (by kernel_rfl) h)

/-- shelfmark/shelfmarkref14.SameInts -/
def S40 (a0 a1 : Value) (R : Value → World → Prop) (w : World) : Prop :=
  NextP Try.prog (builtin Go.Builtin.len #[37] 3 #[false] #[a0]) (fun v7 w =>
  NextP Try.prog (builtin Go.Builtin.len #[37] 3 #[false] #[a1]) (fun v9 w =>
  LiftP Try.prog (binS Go.BinOp.neq 3 (Go.Operand.tmp 7) (Go.Operand.tmp 9) v7 v9) (fun v10 w =>
  CondP v10 (fun w =>
    R (Go.Value.bool false) w) (fun w =>
    LoopP (fun J vs w =>   -- [5]
    NextP Try.prog (builtin Go.Builtin.len #[37] 3 #[false] #[a0]) (fun v13 w =>
    LiftP Try.prog (binS Go.BinOp.lss 3 (Go.Operand.tmp 11) (Go.Operand.tmp 13) (vs.headD undef) v13) (fun v14 w =>
    CondP v14 (fun w =>
      DrawP (fun S w =>
    YieldP Try.prog S (Instr.indexAt 37 a0 (vs.headD undef)) (fun v19 w =>
    YieldP Try.prog S (Instr.loadAt 3 v19) (fun v20 w =>
    YieldP Try.prog S (Instr.indexAt 37 a1 (vs.headD undef)) (fun v23 w =>
    YieldP Try.prog S (Instr.loadAt 3 v23) (fun v24 w =>
    YieldP Try.prog S (binS Go.BinOp.neq 3 (Go.Operand.tmp 20) (Go.Operand.tmp 24) v20 v24) (fun v25 w =>
    CondP v25 (fun w =>
      R (Go.Value.bool false) w) (fun w =>
      LiftP Try.prog (binS Go.BinOp.add 3 (Go.Operand.tmp 15) (Go.Operand.const (Go.Value.int Go.IntKind.i64 1)) (vs.headD undef) (Go.Value.int Go.IntKind.i64 1)) (fun v16 w =>
    J [v16] w) w) w) w) w) w) w) w) w) (fun w =>
      R (Go.Value.bool true) w) w) w) w) [(Go.Value.int Go.IntKind.i64 0)] w) w) w) w) w
theorem S40.calls (a0 a1 : Value) (R : Value → World → Prop) (w : World) (h : S40 a0 a1 R w) : Calls Try.prog 40 #[a0, a1] w fun e w' => ∃ v, e = .returned v ∧ R v w' :=
  calls_of_tr (n := 26) (c := bodyOf Try.f40) (.two .leaf (.two (.two .leaf (.two (.two .leaf .leaf) .leaf)) (.two (.two .leaf (.one (.loop [5] (.two (.two .leaf (.two .leaf .leaf)) (.two (.one (.two (.draw [(true, 0), (true, 1), (true, 2), (true, 3), (true, 4), (true, 5), (true, 6), (true, 7), (true, 8)]) (.two (.two .leaf .leaf) .leaf))) .leaf))))) (.two .leaf .leaf)))) Try.func40 (by kernel_rfl) Try.ntmps40 (by kernel_rfl) (by kernel_rfl) [a0, a1] (by kernel_rfl) (of_eq_ (by kernel_rfl) h)

/-- (*shelfmark/shelfmarkref16.Table).Ids -/
def S41 (a0 : Value) (R : Value → World → Prop) (w : World) : Prop :=
  LoopP (fun J vs w =>   -- [3, 4]
    NextP Try.prog (nilChk a0) (fun v7 w =>
    LiftP Try.prog (Instr.fieldAt 78 v7 2) (fun v8 w =>
    LiftP Try.prog (Instr.loadAt 76 v8) (fun v9 w =>
    NextP Try.prog (builtin Go.Builtin.len #[76] 3 #[false] #[v9]) (fun v10 w =>
    LiftP Try.prog (binS Go.BinOp.lss 3 (Go.Operand.tmp 5) (Go.Operand.tmp 10) (vs.tail.headD undef) v10) (fun v11 w =>
    CondP v11 (fun w =>
      NextP Try.prog (nilChk a0) (fun v16 w =>
    LiftP Try.prog (Instr.fieldAt 78 v16 2) (fun v17 w =>
    LiftP Try.prog (Instr.loadAt 76 v17) (fun v18 w =>
    LiftP Try.prog (Instr.indexAt 76 v18 (vs.tail.headD undef)) (fun v20 w =>
    LiftP Try.prog (Instr.fieldAt 85 v20 0) (fun v21 w =>
    LiftP Try.prog (Instr.loadAt 3 v21) (fun v22 w =>
    LiftP Try.prog (Instr.buildSlice 37 1 #[(0, v22)]) (fun v23 w =>
    NextP Try.prog (builtin Go.Builtin.append #[37, 37] 37 #[false, false] #[(vs.headD undef), v23]) (fun v24 w =>
    LiftP Try.prog (binS Go.BinOp.add 3 (Go.Operand.tmp 12) (Go.Operand.const (Go.Value.int Go.IntKind.i64 1)) (vs.tail.headD undef) (Go.Value.int Go.IntKind.i64 1)) (fun v13 w =>
    J [v24, v13] w) w) w) w) w) w) w) w) w) w) (fun w =>
      R (vs.headD undef) w) w) w) w) w) w) w) [(Go.Value.slice none 0 0), (Go.Value.int Go.IntKind.i64 0)] w
theorem S41.calls (a0 : Value) (R : Value → World → Prop) (w : World) (h : S41 a0 R w) : Calls Try.prog 41 #[a0] w fun e w' => ∃ v, e = .returned v ∧ R v w' :=
  calls_of_tr (n := 26) (c := bodyOf Try.f41) (.two .leaf (.two .leaf (.two (.two .leaf (.one (.loop [3, 4] (.two (.two .leaf (.two .leaf .leaf)) (.two (.one .leaf) .leaf))))) (.two .leaf .leaf)))) Try.func41 (by kernel_rfl) Try.ntmps41 (by kernel_rfl) (by kernel_rfl) [a0] (by kernel_rfl) (of_eq_ (by kernel_rfl) h)

/-- (*shelfmark/shelfmarkref16.Table).Ranges -/
def S42 (a0 a1 : Value) (R : Value → World → Prop) (w : World) : Prop :=
  CallP Try.prog 64 #[a0, a1] (fun v8 w =>
  LiftP Try.prog (binS Go.BinOp.lss 3 (Go.Operand.tmp 9) (Go.Operand.const (Go.Value.int Go.IntKind.i64 0)) v8 (Go.Value.int Go.IntKind.i64 0)) (fun v10 w =>
  CondP v10 (fun w =>
    R (Go.Value.slice none 0 0) w) (fun w =>
    NextP Try.prog (nilChk a0) (fun v12 w =>
  LiftP Try.prog (Instr.fieldAt 78 v12 2) (fun v13 w =>
  LiftP Try.prog (Instr.loadAt 76 v13) (fun v14 w =>
  LiftP Try.prog (Instr.indexAt 76 v14 v8) (fun v16 w =>
  LiftP Try.prog (Instr.fieldAt 85 v16 1) (fun v17 w =>
  LiftP Try.prog (Instr.loadAt 26 v17) (fun v18 w =>
  R v18 w) w) w) w) w) w) w) w) w) w
theorem S42.calls (a0 a1 : Value) (R : Value → World → Prop) (w : World) (h : S42 a0 a1 R w) : Calls Try.prog 42 #[a0, a1] w fun e w' => ∃ v, e = .returned v ∧ R v w' :=
  calls_of_tr (n := 19) (c := bodyOf Try.f42) (.two .leaf (.two .leaf (.two (.two .leaf (.two (.two .leaf .leaf) .leaf)) (.two .leaf .leaf)))) Try.func42 (by kernel_rfl) Try.ntmps42 (by kernel_rfl) (by kernel_rfl) [a0, a1] (by kernel_rfl) (of_eq_ (by kernel_rfl) h)

/-- (*shelfmark/lock.Table).Renew -/
def S54 (a0 a1 : Value) (R : Value → World → Prop) (w : World) : Prop :=
  NextP Try.prog (nilChk a0) (fun v7 w =>
  LiftP Try.prog (Instr.fieldAt 72 v7 1) (fun v8 w =>
  LiftP Try.prog (Instr.loadAt 70 v8) (fun v9 w =>
  LiftP Try.prog (Instr.lookup 70 v9 a1 false) (fun v11 w =>
  LiftP Try.prog (binS Go.BinOp.eql 73 (Go.Operand.tmp 12) (Go.Operand.const (Go.Value.pointer none)) v11 (Go.Value.pointer none)) (fun v13 w =>
  CondP v13 (fun w =>
    R (Go.Value.bool false) w) (fun w =>
    NextP Try.prog (nilChk a0) (fun v16 w =>
  LiftP Try.prog (Instr.fieldAt 72 v16 0) (fun v17 w =>
  LiftP Try.prog (Instr.loadAt 3 v17) (fun v18 w =>
  NextP Try.prog (nilChk v11) (fun v19 w =>
  LiftP Try.prog (Instr.fieldAt 75 v19 1) (fun v20 w =>
  LiftU Try.prog (Instr.storeAt 3 v20 v18) (fun v_ w =>
  R (Go.Value.bool true) w) w) w) w) w) w) w) w) w) w) w) w) w
theorem S54.calls (a0 a1 : Value) (R : Value → World → Prop) (w : World) (h : S54 a0 a1 R w) : Calls Try.prog 54 #[a0, a1] w fun e w' => ∃ v, e = .returned v ∧ R v w' :=
  calls_of_tr (n := 21) (c := bodyOf Try.f54) (.two .leaf (.two .leaf (.two (.two .leaf (.two (.two .leaf .leaf) .leaf)) (.two .leaf (.two .leaf .leaf))))) Try.func54 (by kernel_rfl) Try.ntmps54 (by kernel_rfl) (by kernel_rfl) [a0, a1] (by kernel_rfl) (of_eq_ (by kernel_rfl) h)

/-- (*shelfmark/lock.Table).Blocks$1 -/
def S55 (a0 a1 : Value) (R : Value → World → Prop) (w : World) : Prop :=
  LiftP Try.prog (Instr.box 23 a0) (fun v2 w =>
  LiftP Try.prog (Instr.loadAt 23 v2) (fun v4 w =>
  LiftP Try.prog (Instr.loadAt 9 a1) (fun v5 w =>
  CallP Try.prog 16 #[v4, v5] (fun v6 w =>
  R v6 w) w) w) w) w
theorem S55.calls (a0 a1 : Value) (R : Value → World → Prop) (w : World) (h : S55 a0 a1 R w) : Calls Try.prog 55 #[a0, a1] w fun e w' => ∃ v, e = .returned v ∧ R v w' :=
  calls_of_tr (n := 7) (c := bodyOf Try.f55) (.two .leaf (.two .leaf .leaf)) Try.func55 (by kernel_rfl) Try.ntmps55 (by kernel_rfl) (by kernel_rfl) [a0, a1] (by kernel_rfl) (of_eq_ (by kernel_rfl) h)

/-- (*shelfmark/shelfmarkref16.Table).Take -/
def S56 (a0 a1 a2 : Value) (R : Value → World → Prop) (w : World) : Prop :=
  LiftP Try.prog (Instr.box 23 a2) (fun v5 w =>
  LiftP Try.prog (binS Go.BinOp.lss 3 (Go.Operand.tmp 10) (Go.Operand.const (Go.Value.int Go.IntKind.i64 1)) a1 (Go.Value.int Go.IntKind.i64 1)) (fun v11 w =>
  GuardP v11 false (fun K w => LiftP Try.prog (Instr.loadAt 23 v5) K w) (fun v13 w =>
  GuardP v11 false (fun K w => CallP Try.prog 15 #[v13] K w) (fun v14 w =>
  PickP v11 (Go.Value.bool true) v14 (fun v15 w =>
  CondP v15 (fun w =>
    R (Go.Value.int Go.IntKind.i64 1) w) (fun w =>
    CallP Try.prog 64 #[a0, a1] (fun v18 w =>
  JoinP (fun J w =>
    LiftP Try.prog (binS Go.BinOp.lss 3 (Go.Operand.tmp 19) (Go.Operand.const (Go.Value.int Go.IntKind.i64 0)) v18 (Go.Value.int Go.IntKind.i64 0)) (fun v20 w =>
    CondP v20 (fun w =>
      LoopP (fun J_1 vs_1 w =>   -- [7]
        NextP Try.prog (nilChk a0) (fun v23 w =>
        LiftP Try.prog (Instr.fieldAt 78 v23 2) (fun v24 w =>
        LiftP Try.prog (Instr.loadAt 76 v24) (fun v25 w =>
        NextP Try.prog (builtin Go.Builtin.len #[76] 3 #[false] #[v25]) (fun v26 w =>
        LiftP Try.prog (binS Go.BinOp.lss 3 (Go.Operand.tmp 21) (Go.Operand.tmp 26) (vs_1.headD undef) v26) (fun v27 w =>
        GuardP v27 true (fun K w => K a0 w) (fun v29 w =>
        GuardP v27 true (fun K w => NextP Try.prog (nilChk v29) K w) (fun v30 w =>
        GuardP v27 true (fun K w => LiftP Try.prog (Instr.fieldAt 78 v30 2) K w) (fun v31 w =>
        GuardP v27 true (fun K w => LiftP Try.prog (Instr.loadAt 76 v31) K w) (fun v32 w =>
        GuardP v27 true (fun K w => K (vs_1.headD undef) w) (fun v33 w =>
        GuardP v27 true (fun K w => LiftP Try.prog (Instr.indexAt 76 v32 v33) K w) (fun v34 w =>
        GuardP v27 true (fun K w => LiftP Try.prog (Instr.fieldAt 85 v34 0) K w) (fun v35 w =>
        GuardP v27 true (fun K w => LiftP Try.prog (Instr.loadAt 3 v35) K w) (fun v36 w =>
        GuardP v27 true (fun K w => K a1 w) (fun v37 w =>
        GuardP v27 true (fun K w => LiftP Try.prog (binS Go.BinOp.lss 3 (Go.Operand.tmp 36) (Go.Operand.tmp 37) v36 v37) K w) (fun v38 w =>
        PickP v27 v38 (Go.Value.bool false) (fun v39 w =>
        CondP v39 (fun w =>
          LiftP Try.prog (binS Go.BinOp.add 3 (Go.Operand.tmp 40) (Go.Operand.const (Go.Value.int Go.IntKind.i64 1)) (vs_1.headD undef) (Go.Value.int Go.IntKind.i64 1)) (fun v41 w =>
        J_1 [v41] w) w) (fun w =>
          NextP Try.prog (nilChk a0) (fun v44 w =>
      LiftP Try.prog (Instr.fieldAt 78 v44 2) (fun v45 w =>
      LiftP Try.prog (Instr.loadAt 76 v45) (fun v46 w =>
      LiftP Try.prog (Instr.sliceAt 76 v46 none (some (vs_1.headD undef)) none) (fun v48 w =>
      NextP Try.prog (builtin Go.Builtin.append #[76, 76] 76 #[false, false] #[(Go.Value.slice none 0 0), v48]) (fun v49 w =>
      LiftP Try.prog (Instr.build 85 #[(0, a1)]) (fun v52 w =>
      LiftP Try.prog (Instr.buildSlice 76 1 #[(0, v52)]) (fun v53 w =>
      NextP Try.prog (builtin Go.Builtin.append #[76, 76] 76 #[false, false] #[v49, v53]) (fun v54 w =>
      NextP Try.prog (nilChk a0) (fun v58 w =>
      LiftP Try.prog (Instr.fieldAt 78 v58 2) (fun v59 w =>
      LiftP Try.prog (Instr.loadAt 76 v59) (fun v60 w =>
      LiftP Try.prog (Instr.sliceAt 76 v60 (some (vs_1.headD undef)) none none) (fun v62 w =>
      NextP Try.prog (builtin Go.Builtin.append #[76, 76] 76 #[false, false] #[v54, v62]) (fun v63 w =>
      NextP Try.prog (nilChk a0) (fun v64 w =>
      LiftP Try.prog (Instr.fieldAt 78 v64 2) (fun v65 w =>
      LiftU Try.prog (Instr.storeAt 76 v65 v63) (fun v_ w =>
      J [(vs_1.headD undef)] w) w) w) w) w) w) w) w) w) w) w) w) w) w) w) w) w) w) w) w) w) w) w) w) w) w) w) w) w) w) w) w) w) w) [(Go.Value.int Go.IntKind.i64 0)] w) (fun w =>
      J [v18] w) w) w) (fun vs w =>   -- [7]
  NextP Try.prog (nilChk a0) (fun v68 w =>
  LiftP Try.prog (Instr.fieldAt 78 v68 2) (fun v69 w =>
  LiftP Try.prog (Instr.loadAt 76 v69) (fun v70 w =>
  LiftP Try.prog (Instr.indexAt 76 v70 (vs.headD undef)) (fun v72 w =>
  LiftP Try.prog (Instr.fieldAt 85 v72 1) (fun v73 w =>
  LiftP Try.prog (Instr.loadAt 26 v73) (fun v74 w =>
  NextP Try.prog (builtin Go.Builtin.append #[26, 26] 26 #[false, false] #[(Go.Value.slice none 0 0), v74]) (fun v75 w =>
  DrawP (fun S w =>
  YieldN Try.prog S (nilChk a0) (fun v77 w =>
  YieldP Try.prog S (Instr.fieldAt 78 v77 2) (fun v78 w =>
  YieldP Try.prog S (Instr.loadAt 76 v78) (fun v79 w =>
  YieldP Try.prog S (Instr.loadAt 23 v5) (fun v83 w =>
  YieldN Try.prog S (nilChk a0) (fun v88 w =>
  YieldP Try.prog S (Instr.fieldAt 78 v88 1) (fun v89 w =>
  YieldP Try.prog S (Instr.loadAt 3 v89) (fun v90 w =>
  ActP S (fun K w => LiftP Try.prog (Instr.buildSlice 26 1 #[(0, v83)]) K w) (fun S v84 w =>
  ActP S (fun K w => NextP Try.prog (builtin Go.Builtin.append #[26, 26] 26 #[false, false] #[v75, v84]) K w) (fun S v85 w =>
  ActP S (fun K w => CallP Try.prog 21 #[v85] K w) (fun S v86 w =>
  ActP S (fun K w => LiftP Try.prog (Instr.build 85 #[(0, a1), (1, v86), (2, v90)]) K w) (fun S v91 w =>
  YieldP Try.prog S (Instr.indexAt 76 v79 (vs.headD undef)) (fun v92 w =>
  LiftU Try.prog (Instr.storeAt 85 v92 v91) (fun v__1 w =>
  R (Go.Value.int Go.IntKind.i64 0) w) w) w) w) w) w) w) w) w) w) w) w) w) w) w) w) w) w) w) w) w) w) w) w) w) w) w) w) w) w
theorem S56.calls (a0 a1 a2 : Value) (R : Value → World → Prop) (w : World) (h : S56 a0 a1 a2 R w) : Calls Try.prog 56 #[a0, a1, a2] w fun e w' => ∃ v, e = .returned v ∧ R v w' :=
  calls_of_tr (n := 93) (c := bodyOf Try.f56) (.two .leaf (.two (.two .leaf (.two (.two .leaf .leaf) .leaf)) (.two .leaf (.join [7] (.two .leaf (.two (.two .leaf (.two (.one (.loop [7] (.two (.two .leaf (.two .leaf .leaf)) (.one .leaf)))) (.two .leaf (.two .leaf (.two .leaf .leaf))))) .leaf)) (.two .leaf (.two .leaf (.two (.drawL [(true, 0), (true, 1), (true, 2), (true, 3), (true, 4), (true, 5), (true, 6), (true, 7), (true, 11), (true, 12), (true, 13), (true, 14), (false, 8), (false, 9), (false, 10), (false, 15), (true, 16)] 17) (.two .leaf .leaf)))))))) Try.func56 (by kernel_rfl) Try.ntmps56 (by kernel_rfl) (by kernel_rfl) [a0, a1, a2] (by kernel_rfl) (of_eq_ (by kernel_rfl) h)

/-- (*shelfmark/shelfmarkref16.Table).Renew -/
def S57 (a0 a1 : Value) (R : Value → World → Prop) (w : World) : Prop :=
  CallP Try.prog 64 #[a0, a1] (fun v8 w =>
  LiftP Try.prog (binS Go.BinOp.lss 3 (Go.Operand.tmp 9) (Go.Operand.const (Go.Value.int Go.IntKind.i64 0)) v8 (Go.Value.int Go.IntKind.i64 0)) (fun v10 w =>
  CondP v10 (fun w =>
    R (Go.Value.bool false) w) (fun w =>
    DrawP (fun S w =>
  YieldN Try.prog S (nilChk a0) (fun v12 w =>
  YieldP Try.prog S (Instr.fieldAt 78 v12 2) (fun v13 w =>
  YieldP Try.prog S (Instr.loadAt 76 v13) (fun v14 w =>
  YieldN Try.prog S (nilChk a0) (fun v17 w =>
  YieldP Try.prog S (Instr.fieldAt 78 v17 1) (fun v18 w =>
  YieldP Try.prog S (Instr.loadAt 3 v18) (fun v19 w =>
  YieldP Try.prog S (Instr.indexAt 76 v14 v8) (fun v20 w =>
  YieldP Try.prog S (Instr.fieldAt 85 v20 2) (fun v21 w =>
  LiftU Try.prog (Instr.storeAt 3 v21 v19) (fun v_ w =>
  R (Go.Value.bool true) w) w) w) w) w) w) w) w) w) w) w) w) w) w
theorem S57.calls (a0 a1 : Value) (R : Value → World → Prop) (w : World) (h : S57 a0 a1 R w) : Calls Try.prog 57 #[a0, a1] w fun e w' => ∃ v, e = .returned v ∧ R v w' :=
  calls_of_tr (n := 22) (c := bodyOf Try.f57) (.two .leaf (.two .leaf (.two (.two .leaf (.two (.two .leaf .leaf) .leaf)) (.two (.drawL [(true, 0), (true, 1), (true, 2), (true, 3), (true, 4), (true, 5), (true, 6), (true, 7), (true, 8), (true, 9), (true, 10)] 11) (.two .leaf .leaf))))) Try.func57 (by kernel_rfl) Try.ntmps57 (by kernel_rfl) (by kernel_rfl) [a0, a1] (by kernel_rfl) (of_eq_ (by kernel_rfl) h)

/-- (*shelfmark/shelfmarkref16.Table).Free -/
def S58 (a0 a1 : Value) (R : Value → World → Prop) (w : World) : Prop :=
  CallP Try.prog 64 #[a0, a1] (fun v9 w =>
  LiftP Try.prog (binS Go.BinOp.lss 3 (Go.Operand.tmp 10) (Go.Operand.const (Go.Value.int Go.IntKind.i64 0)) v9 (Go.Value.int Go.IntKind.i64 0)) (fun v11 w =>
  CondP v11 (fun w =>
    R (Go.Value.bool false) w) (fun w =>
    NextP Try.prog (nilChk a0) (fun v14 w =>
  LiftP Try.prog (Instr.fieldAt 78 v14 2) (fun v15 w =>
  LiftP Try.prog (Instr.loadAt 76 v15) (fun v16 w =>
  LiftP Try.prog (Instr.sliceAt 76 v16 none (some v9) none) (fun v18 w =>
  NextP Try.prog (builtin Go.Builtin.append #[76, 76] 76 #[false, false] #[(Go.Value.slice none 0 0), v18]) (fun v19 w =>
  NextP Try.prog (nilChk a0) (fun v23 w =>
  LiftP Try.prog (Instr.fieldAt 78 v23 2) (fun v24 w =>
  LiftP Try.prog (Instr.loadAt 76 v24) (fun v25 w =>
  LiftP Try.prog (binS Go.BinOp.add 3 (Go.Operand.tmp 26) (Go.Operand.const (Go.Value.int Go.IntKind.i64 1)) v9 (Go.Value.int Go.IntKind.i64 1)) (fun v27 w =>
  LiftP Try.prog (Instr.sliceAt 76 v25 (some v27) none none) (fun v28 w =>
  NextP Try.prog (builtin Go.Builtin.append #[76, 76] 76 #[false, false] #[v19, v28]) (fun v29 w =>
  NextP Try.prog (nilChk a0) (fun v30 w =>
  LiftP Try.prog (Instr.fieldAt 78 v30 2) (fun v31 w =>
  LiftU Try.prog (Instr.storeAt 76 v31 v29) (fun v_ w =>
  R (Go.Value.bool true) w) w) w) w) w) w) w) w) w) w) w) w) w) w) w) w) w) w
theorem S58.calls (a0 a1 : Value) (R : Value → World → Prop) (w : World) (h : S58 a0 a1 R w) : Calls Try.prog 58 #[a0, a1] w fun e w' => ∃ v, e = .returned v ∧ R v w' :=
  calls_of_tr (n := 32) (c := bodyOf Try.f58) (.two .leaf (.two .leaf (.two (.two .leaf (.two (.two .leaf .leaf) .leaf)) (.two .leaf (.two .leaf (.two .leaf (.two .leaf .leaf))))))) Try.func58 (by kernel_rfl) Try.ntmps58 (by kernel_rfl) (by kernel_rfl) [a0, a1] (by kernel_rfl) (of_eq_ (by kernel_rfl) h)

/-- (*shelfmark/shelfmarkref16.Table).Tick -/
def S59 (a0 : Value) (R : Value → World → Prop) (w : World) : Prop :=
  NextP Try.prog (nilChk a0) (fun v6 w =>
  LiftP Try.prog (Instr.fieldAt 78 v6 1) (fun v7 w =>
  LiftP Try.prog (Instr.loadAt 3 v7) (fun v8 w =>
  LiftP Try.prog (binS Go.BinOp.add 3 (Go.Operand.tmp 8) (Go.Operand.const (Go.Value.int Go.IntKind.i64 1)) v8 (Go.Value.int Go.IntKind.i64 1)) (fun v9 w =>
  NextP Try.prog (nilChk a0) (fun v10 w =>
  LiftP Try.prog (Instr.fieldAt 78 v10 1) (fun v11 w =>
  LiftU Try.prog (Instr.storeAt 3 v11 v9) (fun v_ w =>
  LoopP (fun J vs w =>   -- [2, 3]
    NextP Try.prog (nilChk a0) (fun v14 w =>
    LiftP Try.prog (Instr.fieldAt 78 v14 2) (fun v15 w =>
    LiftP Try.prog (Instr.loadAt 76 v15) (fun v16 w =>
    NextP Try.prog (builtin Go.Builtin.len #[76] 3 #[false] #[v16]) (fun v17 w =>
    LiftP Try.prog (binS Go.BinOp.lss 3 (Go.Operand.tmp 12) (Go.Operand.tmp 17) (vs.tail.headD undef) v17) (fun v18 w =>
    CondP v18 (fun w =>
      JoinP (fun J_1 w =>
      DrawP (fun S w =>
      YieldN Try.prog S (nilChk a0) (fun v22 w =>
      YieldP Try.prog S (Instr.fieldAt 78 v22 1) (fun v23 w =>
      YieldP Try.prog S (Instr.loadAt 3 v23) (fun v24 w =>
      YieldN Try.prog S (nilChk a0) (fun v26 w =>
      YieldP Try.prog S (Instr.fieldAt 78 v26 2) (fun v27 w =>
      YieldP Try.prog S (Instr.loadAt 76 v27) (fun v28 w =>
      YieldP Try.prog S (Instr.indexAt 76 v28 (vs.tail.headD undef)) (fun v30 w =>
      YieldP Try.prog S (Instr.fieldAt 85 v30 2) (fun v31 w =>
      YieldP Try.prog S (Instr.loadAt 3 v31) (fun v32 w =>
      YieldP Try.prog S (binS Go.BinOp.sub 3 (Go.Operand.tmp 24) (Go.Operand.tmp 32) v24 v32) (fun v33 w =>
      YieldN Try.prog S (nilChk a0) (fun v35 w =>
      YieldP Try.prog S (Instr.fieldAt 78 v35 0) (fun v36 w =>
      YieldP Try.prog S (Instr.loadAt 3 v36) (fun v37 w =>
      YieldP Try.prog S (binS Go.BinOp.lss 3 (Go.Operand.tmp 33) (Go.Operand.tmp 37) v33 v37) (fun v38 w =>
      CondP v38 (fun w =>
        NextP Try.prog (nilChk a0) (fun v41 w =>
        LiftP Try.prog (Instr.fieldAt 78 v41 2) (fun v42 w =>
        LiftP Try.prog (Instr.loadAt 76 v42) (fun v43 w =>
        LiftP Try.prog (Instr.indexAt 76 v43 (vs.tail.headD undef)) (fun v45 w =>
        LiftP Try.prog (Instr.loadAt 85 v45) (fun v46 w =>
        LiftP Try.prog (Instr.buildSlice 76 1 #[(0, v46)]) (fun v47 w =>
        NextP Try.prog (builtin Go.Builtin.append #[76, 76] 76 #[false, false] #[(vs.headD undef), v47]) (fun v48 w =>
        J_1 [v48] w) w) w) w) w) w) w) w) (fun w =>
        J_1 [(vs.headD undef)] w) w) w) w) w) w) w) w) w) w) w) w) w) w) w) w) w) (fun vs_1 w =>   -- [2]
    LiftP Try.prog (binS Go.BinOp.add 3 (Go.Operand.tmp 19) (Go.Operand.const (Go.Value.int Go.IntKind.i64 1)) (vs.tail.headD undef) (Go.Value.int Go.IntKind.i64 1)) (fun v20 w =>
    J [(vs_1.headD undef), v20] w) w) w) (fun w =>
      NextP Try.prog (nilChk a0) (fun v51 w =>
  LiftP Try.prog (Instr.fieldAt 78 v51 2) (fun v52 w =>
  LiftU Try.prog (Instr.storeAt 76 v52 (vs.headD undef)) (fun v__1 w =>
  R (.tuple #[]) w) w) w) w) w) w) w) w) w) w) [(Go.Value.slice none 0 0), (Go.Value.int Go.IntKind.i64 0)] w) w) w) w) w) w) w) w
theorem S59.calls (a0 : Value) (R : Value → World → Prop) (w : World) (h : S59 a0 R w) : Calls Try.prog 59 #[a0] w fun e w' => ∃ v, e = .returned v ∧ R v w' :=
  calls_of_tr (n := 53) (c := bodyOf Try.f59) (.two .leaf (.two .leaf (.two (.two .leaf (.one (.loop [2, 3] (.two (.two .leaf (.two .leaf .leaf)) (.join [2] (.one (.two (.draw [(true, 0), (true, 1), (true, 2), (true, 3), (true, 4), (true, 5), (true, 6), (true, 7), (true, 8), (true, 9), (true, 10), (true, 11), (true, 12), (true, 13), (true, 14), (true, 15), (true, 16), (true, 17)]) (.two .leaf .leaf))) .leaf))))) .leaf))) Try.func59 (by kernel_rfl) Try.ntmps59 (by kernel_rfl) (by kernel_rfl) [a0] (by kernel_rfl) (of_eq_ (by kernel_rfl) h)

/-- (*shelfmark/shelfmarkref16.Table).Lose -/
def S60 (a0 a1 : Value) (R : Value → World → Prop) (w : World) : Prop :=
  LiftP Try.prog (Instr.box 23 a1) (fun v3 w =>
  LoopP (fun J vs w =>   -- [4, 5]
    NextP Try.prog (nilChk a0) (fun v9 w =>
    LiftP Try.prog (Instr.fieldAt 78 v9 2) (fun v10 w =>
    LiftP Try.prog (Instr.loadAt 76 v10) (fun v11 w =>
    NextP Try.prog (builtin Go.Builtin.len #[76] 3 #[false] #[v11]) (fun v12 w =>
    LiftP Try.prog (binS Go.BinOp.lss 3 (Go.Operand.tmp 7) (Go.Operand.tmp 12) (vs.tail.headD undef) v12) (fun v13 w =>
    CondP v13 (fun w =>
      JoinP (fun J_1 w =>
      NextP Try.prog (nilChk a0) (fun v17 w =>
      LiftP Try.prog (Instr.fieldAt 78 v17 2) (fun v18 w =>
      LiftP Try.prog (Instr.loadAt 76 v18) (fun v19 w =>
      LiftP Try.prog (Instr.indexAt 76 v19 (vs.tail.headD undef)) (fun v21 w =>
      LiftP Try.prog (Instr.loadAt 85 v21) (fun v22 w =>
      LiftP Try.prog (Instr.alloc 85 true (.tuple #[])) (fun v6 w =>
      LiftU Try.prog (Instr.storeAt 85 v6 v22) (fun v_ w =>
      LiftP Try.prog (Instr.fieldAt 85 v6 1) (fun v23 w =>
      LiftP Try.prog (Instr.loadAt 26 v23) (fun v24 w =>
      LiftP Try.prog (Instr.loadAt 23 v3) (fun v25 w =>
      CallP Try.prog 22 #[v24, v25] (fun v26 w =>
      LiftP Try.prog (Instr.fieldAt 85 v6 1) (fun v27 w =>
      LiftU Try.prog (Instr.storeAt 26 v27 v26) (fun v__1 w =>
      LiftP Try.prog (Instr.fieldAt 85 v6 1) (fun v28 w =>
      LiftP Try.prog (Instr.loadAt 26 v28) (fun v29 w =>
      NextP Try.prog (builtin Go.Builtin.len #[26] 3 #[false] #[v29]) (fun v30 w =>
      LiftP Try.prog (binS Go.BinOp.gtr 3 (Go.Operand.tmp 30) (Go.Operand.const (Go.Value.int Go.IntKind.i64 0)) v30 (Go.Value.int Go.IntKind.i64 0)) (fun v31 w =>
      CondP v31 (fun w =>
        LiftP Try.prog (Instr.loadAt 85 v6) (fun v33 w =>
        LiftP Try.prog (Instr.buildSlice 76 1 #[(0, v33)]) (fun v34 w =>
        NextP Try.prog (builtin Go.Builtin.append #[76, 76] 76 #[false, false] #[(vs.headD undef), v34]) (fun v35 w =>
        J_1 [v35] w) w) w) w) (fun w =>
        J_1 [(vs.headD undef)] w) w) w) w) w) w) w) w) w) w) w) w) w) w) w) w) w) w) w) (fun vs_1 w =>   -- [4]
    LiftP Try.prog (binS Go.BinOp.add 3 (Go.Operand.tmp 14) (Go.Operand.const (Go.Value.int Go.IntKind.i64 1)) (vs.tail.headD undef) (Go.Value.int Go.IntKind.i64 1)) (fun v15 w =>
    J [(vs_1.headD undef), v15] w) w) w) (fun w =>
      NextP Try.prog (nilChk a0) (fun v38 w =>
  LiftP Try.prog (Instr.fieldAt 78 v38 2) (fun v39 w =>
  LiftU Try.prog (Instr.storeAt 76 v39 (vs.headD undef)) (fun v__2 w =>
  R (.tuple #[]) w) w) w) w) w) w) w) w) w) w) [(Go.Value.slice none 0 0), (Go.Value.int Go.IntKind.i64 0)] w) w
theorem S60.calls (a0 a1 : Value) (R : Value → World → Prop) (w : World) (h : S60 a0 a1 R w) : Calls Try.prog 60 #[a0, a1] w fun e w' => ∃ v, e = .returned v ∧ R v w' :=
  calls_of_tr (n := 40) (c := bodyOf Try.f60) (.two .leaf (.two .leaf (.two (.two .leaf (.one (.loop [4, 5] (.two (.two .leaf (.two .leaf .leaf)) (.join [4] (.one (.two .leaf (.two .leaf (.two .leaf (.two .leaf .leaf))))) .leaf))))) .leaf))) Try.func60 (by kernel_rfl) Try.ntmps60 (by kernel_rfl) (by kernel_rfl) [a0, a1] (by kernel_rfl) (of_eq_ (by kernel_rfl) h)

/-- (*shelfmark/lock.Table).sweep -/
def S61 (a0 : Value) (R : Value → World → Prop) (w : World) : Prop :=
  NextP Try.prog (nilChk a0) (fun v3 w =>
  LiftP Try.prog (Instr.fieldAt 72 v3 1) (fun v4 w =>
  LiftP Try.prog (Instr.loadAt 70 v4) (fun v5 w =>
  CallP Try.prog 70 #[v5, (.func (.func 71) #[] #[])] (fun v6 w =>
  R (.tuple #[]) w) w) w) w) w
theorem S61.calls (a0 : Value) (R : Value → World → Prop) (w : World) (h : S61 a0 R w) : Calls Try.prog 61 #[a0] w fun e w' => ∃ v, e = .returned v ∧ R v w' :=
  calls_of_tr (n := 7) (c := bodyOf Try.f61) (.leaf) Try.func61 (by kernel_rfl) Try.ntmps61 (by kernel_rfl) (by kernel_rfl) [a0] (by kernel_rfl) (of_eq_ (by kernel_rfl) h)

/-- (*shelfmark/shelfmarkref16.Table).At -/
def S64 (a0 a1 : Value) (R : Value → World → Prop) (w : World) : Prop :=
  LoopP (fun J vs w =>   -- [5]
    NextP Try.prog (nilChk a0) (fun v8 w =>
    LiftP Try.prog (Instr.fieldAt 78 v8 2) (fun v9 w =>
    LiftP Try.prog (Instr.loadAt 76 v9) (fun v10 w =>
    NextP Try.prog (builtin Go.Builtin.len #[76] 3 #[false] #[v10]) (fun v11 w =>
    LiftP Try.prog (binS Go.BinOp.lss 3 (Go.Operand.tmp 6) (Go.Operand.tmp 11) (vs.headD undef) v11) (fun v12 w =>
    CondP v12 (fun w =>
      NextP Try.prog (nilChk a0) (fun v16 w =>
    LiftP Try.prog (Instr.fieldAt 78 v16 2) (fun v17 w =>
    LiftP Try.prog (Instr.loadAt 76 v17) (fun v18 w =>
    LiftP Try.prog (Instr.indexAt 76 v18 (vs.headD undef)) (fun v20 w =>
    LiftP Try.prog (Instr.fieldAt 85 v20 0) (fun v21 w =>
    LiftP Try.prog (Instr.loadAt 3 v21) (fun v22 w =>
    LiftP Try.prog (binS Go.BinOp.eql 3 (Go.Operand.tmp 22) (Go.Operand.tmp 23) v22 a1) (fun v24 w =>
    CondP v24 (fun w =>
      R (vs.headD undef) w) (fun w =>
      LiftP Try.prog (binS Go.BinOp.add 3 (Go.Operand.tmp 13) (Go.Operand.const (Go.Value.int Go.IntKind.i64 1)) (vs.headD undef) (Go.Value.int Go.IntKind.i64 1)) (fun v14 w =>
    J [v14] w) w) w) w) w) w) w) w) w) w) (fun w =>
      R (Go.Value.int Go.IntKind.i64 (-1)) w) w) w) w) w) w) w) [(Go.Value.int Go.IntKind.i64 0)] w
theorem S64.calls (a0 a1 : Value) (R : Value → World → Prop) (w : World) (h : S64 a0 a1 R w) : Calls Try.prog 64 #[a0, a1] w fun e w' => ∃ v, e = .returned v ∧ R v w' :=
  calls_of_tr (n := 26) (c := bodyOf Try.f64) (.two .leaf (.two (.two .leaf (.one (.loop [5] (.two (.two .leaf (.two .leaf .leaf)) (.two (.one (.two .leaf (.two (.two .leaf .leaf) .leaf))) .leaf))))) (.two .leaf .leaf))) Try.func64 (by kernel_rfl) Try.ntmps64 (by kernel_rfl) (by kernel_rfl) [a0, a1] (by kernel_rfl) (of_eq_ (by kernel_rfl) h)

/-- maps.DeleteFunc[map[int]*shelfmark/lock.held,int,*shelfmark/lock.held] -/
def S70 (a0 a1 : Value) (R : Value → World → Prop) (w : World) : Prop :=
  LiftP Try.prog (Instr.range 70 a0) (fun v7 w =>
  LoopP (fun J vs w =>   -- []
    LiftP Try.prog (Instr.next v7 false 0) (fun v8 w =>
    LiftP Try.prog (Instr.extract v8 0) (fun v9 w =>
    CondP v9 (fun w =>
      LiftP Try.prog (Instr.entry v7) (fun v10 w =>
    LiftP Try.prog (Instr.extract v10 0) (fun v11 w =>
    LiftP Try.prog (Instr.extract v10 1) (fun v12 w =>
    NextP Try.prog (callV a1 #[v11, v12]) (fun v16 w =>
    CondP v16 (fun w =>
      NextP Try.prog (builtin Go.Builtin.delete #[70, 3] 0 #[false, false] #[a0, v11]) (fun v_ w =>
      J [] w) w) (fun w =>
      J [] w) w) w) w) w) w) (fun w =>
      R (.tuple #[]) w) w) w) w) [] w) w
theorem S70.calls (a0 a1 : Value) (R : Value → World → Prop) (w : World) (h : S70 a0 a1 R w) : Calls Try.prog 70 #[a0, a1] w fun e w' => ∃ v, e = .returned v ∧ R v w' :=
  calls_of_tr (n := 19) (c := bodyOf Try.f70) (.two .leaf (.one (.loop [] (.two .leaf (.two (.two .leaf .leaf) (.one (.two .leaf (.two .leaf (.two .leaf .leaf))))))))) Try.func70 (by kernel_rfl) Try.ntmps70 (by kernel_rfl) (by kernel_rfl) [a0, a1] (by kernel_rfl) (of_eq_ (by kernel_rfl) h)

/-- (*shelfmark/lock.Table).sweep$1 -/
def S71 (a0 a1 : Value) (R : Value → World → Prop) (w : World) : Prop :=
  NextP Try.prog (nilChk a1) (fun v6 w =>
  LiftP Try.prog (Instr.fieldAt 75 v6 1) (fun v7 w =>
  LiftP Try.prog (Instr.loadAt 3 v7) (fun v8 w =>
  LiftP Try.prog (binS Go.BinOp.eql 3 (Go.Operand.tmp 8) (Go.Operand.const (Go.Value.int Go.IntKind.i64 0)) v8 (Go.Value.int Go.IntKind.i64 0)) (fun v9 w =>
  GuardP v9 false (fun K w => K a1 w) (fun v11 w =>
  GuardP v9 false (fun K w => NextP Try.prog (nilChk v11) K w) (fun v12 w =>
  GuardP v9 false (fun K w => LiftP Try.prog (Instr.fieldAt 75 v12 0) K w) (fun v13 w =>
  GuardP v9 false (fun K w => LiftP Try.prog (Instr.loadAt 26 v13) K w) (fun v14 w =>
  GuardP v9 false (fun K w => NextP Try.prog (builtin Go.Builtin.len #[26] 3 #[false] #[v14]) K w) (fun v15 w =>
  GuardP v9 false (fun K w => LiftP Try.prog (binS Go.BinOp.eql 3 (Go.Operand.tmp 15) (Go.Operand.const (Go.Value.int Go.IntKind.i64 0)) v15 (Go.Value.int Go.IntKind.i64 0)) K w) (fun v16 w =>
  PickP v9 (Go.Value.bool true) v16 (fun v17 w =>
  R v17 w) w) w) w) w) w) w) w) w) w) w) w
theorem S71.calls (a0 a1 : Value) (R : Value → World → Prop) (w : World) (h : S71 a0 a1 R w) : Calls Try.prog 71 #[a0, a1] w fun e w' => ∃ v, e = .returned v ∧ R v w' :=
  calls_of_tr (n := 18) (c := bodyOf Try.f71) (.two .leaf (.two .leaf .leaf)) Try.func71 (by kernel_rfl) Try.ntmps71 (by kernel_rfl) (by kernel_rfl) [a0, a1] (by kernel_rfl) (of_eq_ (by kernel_rfl) h)

end Go.Proofs.Ytcihbjempijhpaa.E
