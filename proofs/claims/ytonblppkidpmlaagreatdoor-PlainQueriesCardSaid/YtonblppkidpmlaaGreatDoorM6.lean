import Derived.Test.YtonblppkidpmlaaGreatDoorM1
import Derived.Test.YtonblppkidpmlaaGreatDoorProg
import Derived.KernelRfl
namespace Go.Proofs.YtonblppkidpmlaaGreatDoor.E
open Go
set_option maxRecDepth 100000

/-- shelfmark/shelfmarkref05.Light -/
def S10 (a0 : Value) (R : Value → World → Prop) (w : World) : Prop :=
  LiftP Tryz.prog (Instr.box 26 a0) (fun v1 w =>
  LiftP Tryz.prog (Instr.fieldAt 26 v1 1) (fun v3 w =>
  LiftP Tryz.prog (Instr.loadAt 9 v3) (fun v4 w =>
  NextP Tryz.prog (builtin Go.Builtin.len #[9] 3 #[false] #[v4]) (fun v5 w =>
  LiftP Tryz.prog (binS Go.BinOp.leq 3 (Go.Operand.tmp 5) (Go.Operand.const (Go.Value.int Go.IntKind.i64 300)) v5 (Go.Value.int Go.IntKind.i64 300)) (fun v6 w =>
  GuardP v6 true (fun K w => LiftP Tryz.prog (Instr.fieldAt 26 v1 2) K w) (fun v8 w =>
  GuardP v6 true (fun K w => LiftP Tryz.prog (Instr.loadAt 9 v8) K w) (fun v9 w =>
  GuardP v6 true (fun K w => NextP Tryz.prog (builtin Go.Builtin.len #[9] 3 #[false] #[v9]) K w) (fun v10 w =>
  GuardP v6 true (fun K w => LiftP Tryz.prog (binS Go.BinOp.leq 3 (Go.Operand.tmp 10) (Go.Operand.const (Go.Value.int Go.IntKind.i64 300)) v10 (Go.Value.int Go.IntKind.i64 300)) K w) (fun v11 w =>
  PickP v6 v11 (Go.Value.bool false) (fun v12 w =>
  GuardP v12 true (fun K w => LiftP Tryz.prog (Instr.fieldAt 26 v1 6) K w) (fun v14 w =>
  GuardP v12 true (fun K w => LiftP Tryz.prog (Instr.loadAt 24 v14) K w) (fun v15 w =>
  GuardP v12 true (fun K w => NextP Tryz.prog (builtin Go.Builtin.len #[24] 3 #[false] #[v15]) K w) (fun v16 w =>
  GuardP v12 true (fun K w => LiftP Tryz.prog (binS Go.BinOp.leq 3 (Go.Operand.tmp 16) (Go.Operand.const (Go.Value.int Go.IntKind.i64 300)) v16 (Go.Value.int Go.IntKind.i64 300)) K w) (fun v17 w =>
  PickP v12 v17 (Go.Value.bool false) (fun v18 w =>
  GuardP v18 true (fun K w => LiftP Tryz.prog (Instr.fieldAt 26 v1 3) K w) (fun v20 w =>
  GuardP v18 true (fun K w => LiftP Tryz.prog (Instr.loadAt 23 v20) K w) (fun v21 w =>
  GuardP v18 true (fun K w => CallP Tryz.prog 19 #[v21, (Go.Value.int Go.IntKind.i64 300)] K w) (fun v22 w =>
  PickP v18 v22 (Go.Value.bool false) (fun v23 w =>
  GuardP v23 true (fun K w => LiftP Tryz.prog (Instr.fieldAt 26 v1 4) K w) (fun v25 w =>
  GuardP v23 true (fun K w => LiftP Tryz.prog (Instr.loadAt 23 v25) K w) (fun v26 w =>
  GuardP v23 true (fun K w => CallP Tryz.prog 19 #[v26, (Go.Value.int Go.IntKind.i64 300)] K w) (fun v27 w =>
  PickP v23 v27 (Go.Value.bool false) (fun v28 w =>
  GuardP v28 true (fun K w => LiftP Tryz.prog (Instr.fieldAt 26 v1 7) K w) (fun v30 w =>
  GuardP v28 true (fun K w => LiftP Tryz.prog (Instr.loadAt 22 v30) K w) (fun v31 w =>
  GuardP v28 true (fun K w => CallP Tryz.prog 19 #[v31, (Go.Value.int Go.IntKind.i64 300)] K w) (fun v32 w =>
  PickP v28 v32 (Go.Value.bool false) (fun v33 w =>
  GuardP v33 true (fun K w => LiftP Tryz.prog (Instr.fieldAt 26 v1 8) K w) (fun v35 w =>
  GuardP v33 true (fun K w => LiftP Tryz.prog (Instr.loadAt 22 v35) K w) (fun v36 w =>
  GuardP v33 true (fun K w => CallP Tryz.prog 19 #[v36, (Go.Value.int Go.IntKind.i64 300)] K w) (fun v37 w =>
  PickP v33 v37 (Go.Value.bool false) (fun v38 w =>
  R v38 w) w) w) w) w) w) w) w) w) w) w) w) w) w) w) w) w) w) w) w) w) w) w) w) w) w) w) w) w) w) w) w
theorem S10.calls (a0 : Value) (R : Value → World → Prop) (w : World) (h : S10 a0 R w) : Calls Tryz.prog 10 #[a0] w fun e w' => ∃ v, e = .returned v ∧ R v w' :=
  calls_of_tr (n := 39) (c := bodyOf Tryz.f10) (.two .leaf (.two .leaf .leaf)) Tryz.func10 (by kernel_rfl) Tryz.ntmps10 (by kernel_rfl) (by kernel_rfl) [a0] (by kernel_rfl) (of_eq_ (by kernel_rfl) h)

/-- shelfmark/shelfmarkref05.AllLight -/
def S13 (a0 a1 : Value) (R : Value → World → Prop) (w : World) : Prop :=
  NextP Tryz.prog (builtin Go.Builtin.len #[31] 3 #[false] #[a0]) (fun v7 w =>
  LiftP Tryz.prog (binS Go.BinOp.gtr 3 (Go.Operand.tmp 7) (Go.Operand.tmp 8) v7 a1) (fun v9 w =>
  CondP v9 (fun w =>
    R (Go.Value.bool false) w) (fun w =>
    LoopP (fun J vs w =>   -- [5]
    NextP Tryz.prog (builtin Go.Builtin.len #[31] 3 #[false] #[a0]) (fun v12 w =>
    LiftP Tryz.prog (binS Go.BinOp.lss 3 (Go.Operand.tmp 10) (Go.Operand.tmp 12) (vs.headD undef) v12) (fun v13 w =>
    CondP v13 (fun w =>
      LiftP Tryz.prog (Instr.indexAt 31 a0 (vs.headD undef)) (fun v18 w =>
    LiftP Tryz.prog (Instr.loadAt 26 v18) (fun v19 w =>
    CallP Tryz.prog 10 #[v19] (fun v20 w =>
    LiftP Tryz.prog (Op.unary Go.UnOp.not v20) (fun v21 w =>
    CondP v21 (fun w =>
      R (Go.Value.bool false) w) (fun w =>
      LiftP Tryz.prog (binS Go.BinOp.add 3 (Go.Operand.tmp 14) (Go.Operand.const (Go.Value.int Go.IntKind.i64 1)) (vs.headD undef) (Go.Value.int Go.IntKind.i64 1)) (fun v15 w =>
    J [v15] w) w) w) w) w) w) w) (fun w =>
      R (Go.Value.bool true) w) w) w) w) [(Go.Value.int Go.IntKind.i64 0)] w) w) w) w
theorem S13.calls (a0 a1 : Value) (R : Value → World → Prop) (w : World) (h : S13 a0 a1 R w) : Calls Tryz.prog 13 #[a0, a1] w fun e w' => ∃ v, e = .returned v ∧ R v w' :=
  calls_of_tr (n := 22) (c := bodyOf Tryz.f13) (.two .leaf (.two (.two .leaf (.two (.two .leaf .leaf) .leaf)) (.two (.two .leaf (.one (.loop [5] (.two (.two .leaf (.two .leaf .leaf)) (.two (.one (.two .leaf (.two (.two .leaf .leaf) .leaf))) .leaf))))) (.two .leaf .leaf)))) Tryz.func13 (by kernel_rfl) Tryz.ntmps13 (by kernel_rfl) (by kernel_rfl) [a0, a1] (by kernel_rfl) (of_eq_ (by kernel_rfl) h)

/-- shelfmark/shelfmarkref03.Same -/
def S17 (a0 a1 : Value) (R : Value → World → Prop) (w : World) : Prop :=
  NextP Tryz.prog (builtin Go.Builtin.len #[22] 3 #[false] #[a0]) (fun v7 w =>
  NextP Tryz.prog (builtin Go.Builtin.len #[22] 3 #[false] #[a1]) (fun v9 w =>
  LiftP Tryz.prog (binS Go.BinOp.neq 3 (Go.Operand.tmp 7) (Go.Operand.tmp 9) v7 v9) (fun v10 w =>
  CondP v10 (fun w =>
    R (Go.Value.bool false) w) (fun w =>
    LoopP (fun J vs w =>   -- [5]
    NextP Tryz.prog (builtin Go.Builtin.len #[22] 3 #[false] #[a0]) (fun v13 w =>
    LiftP Tryz.prog (binS Go.BinOp.lss 3 (Go.Operand.tmp 11) (Go.Operand.tmp 13) (vs.headD undef) v13) (fun v14 w =>
    CondP v14 (fun w =>
      DrawP (fun S w =>
    YieldP Tryz.prog S (Instr.indexAt 22 a0 (vs.headD undef)) (fun v19 w =>
    YieldP Tryz.prog S (Instr.loadAt 67 v19) (fun v20 w =>
    YieldP Tryz.prog S (Instr.indexAt 22 a1 (vs.headD undef)) (fun v23 w =>
    YieldP Tryz.prog S (Instr.loadAt 67 v23) (fun v24 w =>
    YieldP Tryz.prog S (binS Go.BinOp.neq 67 (Go.Operand.tmp 20) (Go.Operand.tmp 24) v20 v24) (fun v25 w =>
    CondP v25 (fun w =>
      R (Go.Value.bool false) w) (fun w =>
      LiftP Tryz.prog (binS Go.BinOp.add 3 (Go.Operand.tmp 15) (Go.Operand.const (Go.Value.int Go.IntKind.i64 1)) (vs.headD undef) (Go.Value.int Go.IntKind.i64 1)) (fun v16 w =>
    J [v16] w) w) w) w) w) w) w) w) w) (fun w =>
      R (Go.Value.bool true) w) w) w) w) [(Go.Value.int Go.IntKind.i64 0)] w) w) w) w) w
theorem S17.calls (a0 a1 : Value) (R : Value → World → Prop) (w : World) (h : S17 a0 a1 R w) : Calls Tryz.prog 17 #[a0, a1] w fun e w' => ∃ v, e = .returned v ∧ R v w' :=
  calls_of_tr (n := 26) (c := bodyOf Tryz.f17) (.two .leaf (.two (.two .leaf (.two (.two .leaf .leaf) .leaf)) (.two (.two .leaf (.one (.loop [5] (.two (.two .leaf (.two .leaf .leaf)) (.two (.one (.two (.draw [(true, 0), (true, 1), (true, 2), (true, 3), (true, 4), (true, 5), (true, 6), (true, 7), (true, 8)]) (.two (.two .leaf .leaf) .leaf))) .leaf))))) (.two .leaf .leaf)))) Tryz.func17 (by kernel_rfl) Tryz.ntmps17 (by kernel_rfl) (by kernel_rfl) [a0, a1] (by kernel_rfl) (of_eq_ (by kernel_rfl) h)

/-- shelfmark/shelfmarkref03.Light -/
def S19 (a0 a1 : Value) (R : Value → World → Prop) (w : World) : Prop :=
  LoopP (fun J vs w =>   -- [5, 6]
    NextP Tryz.prog (builtin Go.Builtin.len #[22] 3 #[false] #[a0]) (fun v9 w =>
    LiftP Tryz.prog (binS Go.BinOp.lss 3 (Go.Operand.tmp 7) (Go.Operand.tmp 9) (vs.tail.headD undef) v9) (fun v10 w =>
    CondP v10 (fun w =>
      LiftP Tryz.prog (Instr.indexAt 22 a0 (vs.tail.headD undef)) (fun v15 w =>
    LiftP Tryz.prog (Instr.fieldAt 67 v15 2) (fun v16 w =>
    LiftP Tryz.prog (Instr.loadAt 9 v16) (fun v17 w =>
    NextP Tryz.prog (builtin Go.Builtin.len #[9] 3 #[false] #[v17]) (fun v18 w =>
    LiftP Tryz.prog (binS Go.BinOp.gtr 3 (Go.Operand.tmp 18) (Go.Operand.tmp 19) v18 a1) (fun v20 w =>
    GuardP v20 false (fun K w => K (vs.tail.headD undef) w) (fun v22 w =>
    GuardP v20 false (fun K w => K a1 w) (fun v23 w =>
    GuardP v20 false (fun K w => LiftP Tryz.prog (binS Go.BinOp.gtr 3 (Go.Operand.tmp 22) (Go.Operand.tmp 23) v22 v23) K w) (fun v24 w =>
    PickP v20 (Go.Value.bool true) v24 (fun v25 w =>
    CondP v25 (fun w =>
      R (Go.Value.bool false) w) (fun w =>
      LiftP Tryz.prog (Instr.indexAt 22 a0 (vs.tail.headD undef)) (fun v29 w =>
    LiftP Tryz.prog (Instr.fieldAt 67 v29 2) (fun v30 w =>
    LiftP Tryz.prog (Instr.loadAt 9 v30) (fun v31 w =>
    NextP Tryz.prog (builtin Go.Builtin.len #[9] 3 #[false] #[v31]) (fun v32 w =>
    LiftP Tryz.prog (binS Go.BinOp.add 3 (Go.Operand.tmp 26) (Go.Operand.tmp 32) (vs.headD undef) v32) (fun v33 w =>
    LiftP Tryz.prog (binS Go.BinOp.gtr 3 (Go.Operand.tmp 34) (Go.Operand.tmp 35) v33 a1) (fun v36 w =>
    CondP v36 (fun w =>
      R (Go.Value.bool false) w) (fun w =>
      LiftP Tryz.prog (binS Go.BinOp.add 3 (Go.Operand.tmp 11) (Go.Operand.const (Go.Value.int Go.IntKind.i64 1)) (vs.tail.headD undef) (Go.Value.int Go.IntKind.i64 1)) (fun v12 w =>
    J [v33, v12] w) w) w) w) w) w) w) w) w) w) w) w) w) w) w) w) w) w) w) (fun w =>
      R (Go.Value.bool true) w) w) w) w) [(Go.Value.int Go.IntKind.i64 0), (Go.Value.int Go.IntKind.i64 0)] w
theorem S19.calls (a0 a1 : Value) (R : Value → World → Prop) (w : World) (h : S19 a0 a1 R w) : Calls Tryz.prog 19 #[a0, a1] w fun e w' => ∃ v, e = .returned v ∧ R v w' :=
  calls_of_tr (n := 37) (c := bodyOf Tryz.f19) (.two .leaf (.two .leaf (.two (.two .leaf (.one (.loop [5, 6] (.two (.two .leaf (.two .leaf .leaf)) (.two (.one (.two (.two .leaf (.two (.two .leaf .leaf) .leaf)) (.two .leaf (.two .leaf (.two (.two .leaf .leaf) .leaf))))) .leaf))))) (.two .leaf .leaf)))) Tryz.func19 (by kernel_rfl) Tryz.ntmps19 (by kernel_rfl) (by kernel_rfl) [a0, a1] (by kernel_rfl) (of_eq_ (by kernel_rfl) h)

/-- shelfmark/shelfmarkref04.Shows -/
def S22 (a0 a1 : Value) (R : Value → World → Prop) (w : World) : Prop :=
  LiftP Tryz.prog (Instr.box 53 a0) (fun v2 w =>
  LiftP Tryz.prog (Instr.loadAt 53 v2) (fun v9 w =>
  CallP Tryz.prog 44 #[v9] (fun v10 w =>
  LiftP Tryz.prog (binS Go.BinOp.neq 29 (Go.Operand.tmp 10) (Go.Operand.const (Go.Value.int Go.IntKind.i64 0)) v10 (Go.Value.int Go.IntKind.i64 0)) (fun v11 w =>
  GuardP v11 false (fun K w => K a1 w) (fun v13 w =>
  GuardP v11 false (fun K w => CallP Tryz.prog 41 #[v13] K w) (fun v14 w =>
  GuardP v11 false (fun K w => LiftP Tryz.prog (binS Go.BinOp.neq 29 (Go.Operand.tmp 14) (Go.Operand.const (Go.Value.int Go.IntKind.i64 0)) v14 (Go.Value.int Go.IntKind.i64 0)) K w) (fun v15 w =>
  PickP v11 (Go.Value.bool true) v15 (fun v16 w =>
  CondP v16 (fun w =>
    R (.tuple #[(Go.Value.slice none 0 0), (Go.Value.bool false)]) w) (fun w =>
    LoopP (fun J vs w =>   -- [6, 7]
    LiftP Tryz.prog (Instr.fieldAt 53 v2 1) (fun v18 w =>
    LiftP Tryz.prog (Instr.loadAt 24 v18) (fun v19 w =>
    NextP Tryz.prog (builtin Go.Builtin.len #[24] 3 #[false] #[v19]) (fun v20 w =>
    LiftP Tryz.prog (binS Go.BinOp.lss 3 (Go.Operand.tmp 17) (Go.Operand.tmp 20) (vs.tail.headD undef) v20) (fun v21 w =>
    CondP v21 (fun w =>
      LiftP Tryz.prog (Instr.fieldAt 53 v2 1) (fun v24 w =>
    LiftP Tryz.prog (Instr.loadAt 24 v24) (fun v25 w =>
    LiftP Tryz.prog (Instr.indexAt 24 v25 (vs.tail.headD undef)) (fun v27 w =>
    LiftP Tryz.prog (Instr.loadAt 3 v27) (fun v28 w =>
    NextP Tryz.prog (builtin Go.Builtin.len #[22] 3 #[false] #[a1]) (fun v31 w =>
    LiftP Tryz.prog (binS Go.BinOp.geq 3 (Go.Operand.tmp 29) (Go.Operand.tmp 31) v28 v31) (fun v32 w =>
    GuardP v32 false (fun K w => K a1 w) (fun v34 w =>
    GuardP v32 false (fun K w => K v28 w) (fun v35 w =>
    GuardP v32 false (fun K w => LiftP Tryz.prog (Instr.indexAt 22 v34 v35) K w) (fun v36 w =>
    GuardP v32 false (fun K w => LiftP Tryz.prog (Instr.fieldAt 67 v36 0) K w) (fun v37 w =>
    GuardP v32 false (fun K w => LiftP Tryz.prog (Instr.loadAt 3 v37) K w) (fun v38 w =>
    GuardP v32 false (fun K w => LiftP Tryz.prog (binS Go.BinOp.eql 3 (Go.Operand.tmp 38) (Go.Operand.const (Go.Value.int Go.IntKind.i64 0)) v38 (Go.Value.int Go.IntKind.i64 0)) K w) (fun v39 w =>
    PickP v32 (Go.Value.bool true) v39 (fun v40 w =>
    CondP v40 (fun w =>
      R (.tuple #[(Go.Value.slice none 0 0), (Go.Value.bool false)]) w) (fun w =>
      LiftP Tryz.prog (Instr.indexAt 22 a1 v28) (fun v44 w =>
    LiftP Tryz.prog (Instr.loadAt 67 v44) (fun v45 w =>
    LiftP Tryz.prog (Instr.buildSlice 22 1 #[(0, v45)]) (fun v46 w =>
    NextP Tryz.prog (builtin Go.Builtin.append #[22, 22] 22 #[false, false] #[(vs.headD undef), v46]) (fun v47 w =>
    LiftP Tryz.prog (binS Go.BinOp.add 3 (Go.Operand.tmp 22) (Go.Operand.const (Go.Value.int Go.IntKind.i64 1)) (vs.tail.headD undef) (Go.Value.int Go.IntKind.i64 1)) (fun v23 w =>
    J [v47, v23] w) w) w) w) w) w) w) w) w) w) w) w) w) w) w) w) w) w) w) w) (fun w =>
      R (.tuple #[(vs.headD undef), (Go.Value.bool true)]) w) w) w) w) w) w) [(Go.Value.slice none 0 0), (Go.Value.int Go.IntKind.i64 0)] w) w) w) w) w) w) w) w) w) w
theorem S22.calls (a0 a1 : Value) (R : Value → World → Prop) (w : World) (h : S22 a0 a1 R w) : Calls Tryz.prog 22 #[a0, a1] w fun e w' => ∃ v, e = .returned v ∧ R v w' :=
  calls_of_tr (n := 49) (c := bodyOf Tryz.f22) (.two .leaf (.two (.two .leaf (.two (.two .leaf .leaf) .leaf)) (.two .leaf (.two (.two .leaf (.one (.loop [6, 7] (.two (.two .leaf (.two .leaf .leaf)) (.two (.one (.two .leaf (.two (.two .leaf (.two (.two .leaf .leaf) .leaf)) .leaf))) .leaf))))) (.two .leaf .leaf))))) Tryz.func22 (by kernel_rfl) Tryz.ntmps22 (by kernel_rfl) (by kernel_rfl) [a0, a1] (by kernel_rfl) (of_eq_ (by kernel_rfl) h)

/-- shelfmark/shelfmarkref04.Lies -/
def S23 (a0 a1 a2 : Value) (R : Value → World → Prop) (w : World) : Prop :=
  CallP Tryz.prog 43 #[a0] (fun v9 w =>
  LiftP Tryz.prog (binS Go.BinOp.neq 29 (Go.Operand.tmp 9) (Go.Operand.const (Go.Value.int Go.IntKind.i64 0)) v9 (Go.Value.int Go.IntKind.i64 0)) (fun v10 w =>
  GuardP v10 false (fun K w => K a1 w) (fun v12 w =>
  GuardP v10 false (fun K w => CallP Tryz.prog 43 #[v12] K w) (fun v13 w =>
  GuardP v10 false (fun K w => LiftP Tryz.prog (binS Go.BinOp.neq 29 (Go.Operand.tmp 13) (Go.Operand.const (Go.Value.int Go.IntKind.i64 0)) v13 (Go.Value.int Go.IntKind.i64 0)) K w) (fun v14 w =>
  PickP v10 (Go.Value.bool true) v14 (fun v15 w =>
  GuardP v15 false (fun K w => K a2 w) (fun v17 w =>
  GuardP v15 false (fun K w => CallP Tryz.prog 43 #[v17] K w) (fun v18 w =>
  GuardP v15 false (fun K w => LiftP Tryz.prog (binS Go.BinOp.neq 29 (Go.Operand.tmp 18) (Go.Operand.const (Go.Value.int Go.IntKind.i64 0)) v18 (Go.Value.int Go.IntKind.i64 0)) K w) (fun v19 w =>
  PickP v15 (Go.Value.bool true) v19 (fun v20 w =>
  CondP v20 (fun w =>
    R (Go.Value.bool false) w) (fun w =>
    JoinP (fun J w =>
    NextP Tryz.prog (builtin Go.Builtin.len #[22] 3 #[false] #[a0]) (fun v23 w =>
    NextP Tryz.prog (builtin Go.Builtin.len #[22] 3 #[false] #[a2]) (fun v25 w =>
    LiftP Tryz.prog (binS Go.BinOp.gtr 3 (Go.Operand.tmp 23) (Go.Operand.tmp 25) v23 v25) (fun v26 w =>
    CondP v26 (fun w =>
      NextP Tryz.prog (builtin Go.Builtin.len #[22] 3 #[false] #[a2]) (fun v29 w =>
      LiftP Tryz.prog (Instr.sliceAt 22 a0 none (some v29) none) (fun v30 w =>
      J [v30] w) w) w) (fun w =>
      J [a0] w) w) w) w) w) (fun vs w =>   -- [7]
  CallP Tryz.prog 51 #[a0, a1] (fun v33 w =>
  LiftP Tryz.prog (binS Go.BinOp.geq 3 (Go.Operand.tmp 33) (Go.Operand.const (Go.Value.int Go.IntKind.i64 0)) v33 (Go.Value.int Go.IntKind.i64 0)) (fun v34 w =>
  GuardP v34 true (fun K w => K (vs.headD undef) w) (fun v36 w =>
  GuardP v34 true (fun K w => K a2 w) (fun v37 w =>
  GuardP v34 true (fun K w => CallP Tryz.prog 51 #[v36, v37] K w) (fun v38 w =>
  GuardP v34 true (fun K w => LiftP Tryz.prog (binS Go.BinOp.leq 3 (Go.Operand.tmp 38) (Go.Operand.const (Go.Value.int Go.IntKind.i64 0)) v38 (Go.Value.int Go.IntKind.i64 0)) K w) (fun v39 w =>
  PickP v34 v39 (Go.Value.bool false) (fun v40 w =>
  R v40 w) w) w) w) w) w) w) w) w) w) w) w) w) w) w) w) w) w) w) w
theorem S23.calls (a0 a1 a2 : Value) (R : Value → World → Prop) (w : World) (h : S23 a0 a1 a2 R w) : Calls Tryz.prog 23 #[a0, a1, a2] w fun e w' => ∃ v, e = .returned v ∧ R v w' :=
  calls_of_tr (n := 41) (c := bodyOf Tryz.f23) (.two .leaf (.two (.two .leaf (.two (.two .leaf .leaf) .leaf)) (.two .leaf (.join [7] (.two .leaf (.two .leaf .leaf)) (.two .leaf .leaf))))) Tryz.func23 (by kernel_rfl) Tryz.ntmps23 (by kernel_rfl) (by kernel_rfl) [a0, a1, a2] (by kernel_rfl) (of_eq_ (by kernel_rfl) h)

/-- shelfmark/shelfmarkref04.Check -/
def S41 (a0 : Value) (R : Value → World → Prop) (w : World) : Prop :=
  NextP Tryz.prog (builtin Go.Builtin.len #[22] 3 #[false] #[a0]) (fun v4 w =>
  LiftP Tryz.prog (binS Go.BinOp.eql 3 (Go.Operand.tmp 4) (Go.Operand.const (Go.Value.int Go.IntKind.i64 0)) v4 (Go.Value.int Go.IntKind.i64 0)) (fun v5 w =>
  CondP v5 (fun w =>
    R (Go.Value.int Go.IntKind.i64 1) w) (fun w =>
    CallP Tryz.prog 43 #[a0] (fun v7 w =>
  R v7 w) w) w) w) w
theorem S41.calls (a0 : Value) (R : Value → World → Prop) (w : World) (h : S41 a0 R w) : Calls Tryz.prog 41 #[a0] w fun e w' => ∃ v, e = .returned v ∧ R v w' :=
  calls_of_tr (n := 8) (c := bodyOf Tryz.f41) (.two .leaf (.two (.two .leaf (.two (.two .leaf .leaf) .leaf)) (.two .leaf .leaf))) Tryz.func41 (by kernel_rfl) Tryz.ntmps41 (by kernel_rfl) (by kernel_rfl) [a0] (by kernel_rfl) (of_eq_ (by kernel_rfl) h)

/-- shelfmark/shelfmarkref03.Row -/
def S43 (a0 : Value) (R : Value → World → Prop) (w : World) : Prop :=
  NextP Tryz.prog (builtin Go.Builtin.len #[22] 3 #[false] #[a0]) (fun v5 w =>
  LiftP Tryz.prog (binS Go.BinOp.gtr 3 (Go.Operand.tmp 5) (Go.Operand.const (Go.Value.int Go.IntKind.i64 4)) v5 (Go.Value.int Go.IntKind.i64 4)) (fun v6 w =>
  CondP v6 (fun w =>
    R (Go.Value.int Go.IntKind.i64 4) w) (fun w =>
    LoopP (fun J vs w =>   -- [3]
    NextP Tryz.prog (builtin Go.Builtin.len #[22] 3 #[false] #[a0]) (fun v9 w =>
    LiftP Tryz.prog (binS Go.BinOp.lss 3 (Go.Operand.tmp 7) (Go.Operand.tmp 9) (vs.headD undef) v9) (fun v10 w =>
    CondP v10 (fun w =>
      LiftP Tryz.prog (Instr.indexAt 22 a0 (vs.headD undef)) (fun v15 w =>
    LiftP Tryz.prog (Instr.loadAt 67 v15) (fun v16 w =>
    CallP Tryz.prog 68 #[v16] (fun v17 w =>
    LiftP Tryz.prog (Op.unary Go.UnOp.not v17) (fun v18 w =>
    CondP v18 (fun w =>
      R (Go.Value.int Go.IntKind.i64 1) w) (fun w =>
      LiftP Tryz.prog (binS Go.BinOp.add 3 (Go.Operand.tmp 11) (Go.Operand.const (Go.Value.int Go.IntKind.i64 1)) (vs.headD undef) (Go.Value.int Go.IntKind.i64 1)) (fun v12 w =>
    J [v12] w) w) w) w) w) w) w) (fun w =>
      R (Go.Value.int Go.IntKind.i64 0) w) w) w) w) [(Go.Value.int Go.IntKind.i64 0)] w) w) w) w
theorem S43.calls (a0 : Value) (R : Value → World → Prop) (w : World) (h : S43 a0 R w) : Calls Tryz.prog 43 #[a0] w fun e w' => ∃ v, e = .returned v ∧ R v w' :=
  calls_of_tr (n := 19) (c := bodyOf Tryz.f43) (.two .leaf (.two (.two .leaf (.two (.two .leaf .leaf) .leaf)) (.two (.two .leaf (.one (.loop [3] (.two (.two .leaf (.two .leaf .leaf)) (.two (.one (.two .leaf (.two (.two .leaf .leaf) .leaf))) .leaf))))) (.two .leaf .leaf)))) Tryz.func43 (by kernel_rfl) Tryz.ntmps43 (by kernel_rfl) (by kernel_rfl) [a0] (by kernel_rfl) (of_eq_ (by kernel_rfl) h)

/-- shelfmark/shelfmarkref04.CheckIndex -/
def S44 (a0 : Value) (R : Value → World → Prop) (w : World) : Prop :=
  LiftP Tryz.prog (Instr.box 53 a0) (fun v1 w =>
  LiftP Tryz.prog (Instr.fieldAt 53 v1 0) (fun v4 w =>
  LiftP Tryz.prog (Instr.loadAt 3 v4) (fun v5 w =>
  LiftP Tryz.prog (binS Go.BinOp.lss 3 (Go.Operand.tmp 5) (Go.Operand.const (Go.Value.int Go.IntKind.i64 1)) v5 (Go.Value.int Go.IntKind.i64 1)) (fun v6 w =>
  GuardP v6 false (fun K w => LiftP Tryz.prog (Instr.fieldAt 53 v1 0) K w) (fun v8 w =>
  GuardP v6 false (fun K w => LiftP Tryz.prog (Instr.loadAt 3 v8) K w) (fun v9 w =>
  GuardP v6 false (fun K w => LiftP Tryz.prog (binS Go.BinOp.gtr 3 (Go.Operand.tmp 9) (Go.Operand.const (Go.Value.int Go.IntKind.i64 6)) v9 (Go.Value.int Go.IntKind.i64 6)) K w) (fun v10 w =>
  PickP v6 (Go.Value.bool true) v10 (fun v11 w =>
  GuardP v11 false (fun K w => LiftP Tryz.prog (Instr.fieldAt 53 v1 1) K w) (fun v13 w =>
  GuardP v11 false (fun K w => LiftP Tryz.prog (Instr.loadAt 24 v13) K w) (fun v14 w =>
  GuardP v11 false (fun K w => NextP Tryz.prog (builtin Go.Builtin.len #[24] 3 #[false] #[v14]) K w) (fun v15 w =>
  GuardP v11 false (fun K w => LiftP Tryz.prog (binS Go.BinOp.eql 3 (Go.Operand.tmp 15) (Go.Operand.const (Go.Value.int Go.IntKind.i64 0)) v15 (Go.Value.int Go.IntKind.i64 0)) K w) (fun v16 w =>
  PickP v11 (Go.Value.bool true) v16 (fun v17 w =>
  CondP v17 (fun w =>
    R (Go.Value.int Go.IntKind.i64 1) w) (fun w =>
    LiftP Tryz.prog (Instr.fieldAt 53 v1 1) (fun v18 w =>
  LiftP Tryz.prog (Instr.loadAt 24 v18) (fun v19 w =>
  NextP Tryz.prog (builtin Go.Builtin.len #[24] 3 #[false] #[v19]) (fun v20 w =>
  LiftP Tryz.prog (binS Go.BinOp.gtr 3 (Go.Operand.tmp 20) (Go.Operand.const (Go.Value.int Go.IntKind.i64 2)) v20 (Go.Value.int Go.IntKind.i64 2)) (fun v21 w =>
  CondP v21 (fun w =>
    R (Go.Value.int Go.IntKind.i64 4) w) (fun w =>
    LoopP (fun J vs w =>   -- [3]
    LiftP Tryz.prog (Instr.fieldAt 53 v1 1) (fun v23 w =>
    LiftP Tryz.prog (Instr.loadAt 24 v23) (fun v24 w =>
    NextP Tryz.prog (builtin Go.Builtin.len #[24] 3 #[false] #[v24]) (fun v25 w =>
    LiftP Tryz.prog (binS Go.BinOp.lss 3 (Go.Operand.tmp 22) (Go.Operand.tmp 25) (vs.headD undef) v25) (fun v26 w =>
    CondP v26 (fun w =>
      DrawP (fun S w =>
    YieldP Tryz.prog S (Instr.fieldAt 53 v1 1) (fun v29 w =>
    YieldP Tryz.prog S (Instr.loadAt 24 v29) (fun v30 w =>
    YieldP Tryz.prog S (Instr.indexAt 24 v30 (vs.headD undef)) (fun v32 w =>
    YieldP Tryz.prog S (Instr.loadAt 3 v32) (fun v33 w =>
    YieldP Tryz.prog S (binS Go.BinOp.lss 3 (Go.Operand.tmp 33) (Go.Operand.const (Go.Value.int Go.IntKind.i64 0)) v33 (Go.Value.int Go.IntKind.i64 0)) (fun v34 w =>
    GuardP v34 false (fun K w => YieldP Tryz.prog S (Instr.fieldAt 53 v1 1) K w) (fun v36 w =>
    GuardP v34 false (fun K w => YieldP Tryz.prog S (Instr.loadAt 24 v36) K w) (fun v37 w =>
    GuardP v34 false (fun K w => K (vs.headD undef) w) (fun v38 w =>
    GuardP v34 false (fun K w => YieldP Tryz.prog S (Instr.indexAt 24 v37 v38) K w) (fun v39 w =>
    GuardP v34 false (fun K w => YieldP Tryz.prog S (Instr.loadAt 3 v39) K w) (fun v40 w =>
    GuardP v34 false (fun K w => YieldP Tryz.prog S (binS Go.BinOp.gtr 3 (Go.Operand.tmp 40) (Go.Operand.const (Go.Value.int Go.IntKind.i64 3)) v40 (Go.Value.int Go.IntKind.i64 3)) K w) (fun v41 w =>
    PickP v34 (Go.Value.bool true) v41 (fun v42 w =>
    GuardP v42 false (fun K w => K (vs.headD undef) w) (fun v44 w =>
    GuardP v42 false (fun K w => YieldP Tryz.prog S (binS Go.BinOp.eql 3 (Go.Operand.tmp 44) (Go.Operand.const (Go.Value.int Go.IntKind.i64 1)) v44 (Go.Value.int Go.IntKind.i64 1)) K w) (fun v45 w =>
    GuardP v42 false (fun K w => K v45 w) (fun v46 w =>
    GuardP v46 true (fun K w => YieldP Tryz.prog S (Instr.fieldAt 53 v1 1) K w) (fun v47 w =>
    GuardP v46 true (fun K w => YieldP Tryz.prog S (Instr.loadAt 24 v47) K w) (fun v48 w =>
    GuardP v46 true (fun K w => YieldP Tryz.prog S (Instr.indexAt 24 v48 (Go.Value.int Go.IntKind.i64 0)) K w) (fun v49 w =>
    GuardP v46 true (fun K w => YieldP Tryz.prog S (Instr.loadAt 3 v49) K w) (fun v50 w =>
    GuardP v46 true (fun K w => YieldP Tryz.prog S (Instr.fieldAt 53 v1 1) K w) (fun v51 w =>
    GuardP v46 true (fun K w => YieldP Tryz.prog S (Instr.loadAt 24 v51) K w) (fun v52 w =>
    GuardP v46 true (fun K w => YieldP Tryz.prog S (Instr.indexAt 24 v52 (Go.Value.int Go.IntKind.i64 1)) K w) (fun v53 w =>
    GuardP v46 true (fun K w => YieldP Tryz.prog S (Instr.loadAt 3 v53) K w) (fun v54 w =>
    GuardP v46 true (fun K w => YieldP Tryz.prog S (binS Go.BinOp.eql 3 (Go.Operand.tmp 50) (Go.Operand.tmp 54) v50 v54) K w) (fun v55 w =>
    GuardP v42 false (fun K w => PickP v46 v55 (Go.Value.bool false) K w) (fun v56 w =>
    PickP v42 (Go.Value.bool true) v56 (fun v57 w =>
    CondP v57 (fun w =>
      R (Go.Value.int Go.IntKind.i64 1) w) (fun w =>
      LiftP Tryz.prog (binS Go.BinOp.add 3 (Go.Operand.tmp 27) (Go.Operand.const (Go.Value.int Go.IntKind.i64 1)) (vs.headD undef) (Go.Value.int Go.IntKind.i64 1)) (fun v28 w =>
    J [v28] w) w) w) w) w) w) w) w) w) w) w) w) w) w) w) w) w) w) w) w) w) w) w) w) w) w) w) w) w) w) (fun w =>
      R (Go.Value.int Go.IntKind.i64 0) w) w) w) w) w) w) [(Go.Value.int Go.IntKind.i64 0)] w) w) w) w) w) w) w) w) w) w) w) w) w) w) w) w) w) w) w) w
theorem S44.calls (a0 : Value) (R : Value → World → Prop) (w : World) (h : S44 a0 R w) : Calls Tryz.prog 44 #[a0] w fun e w' => ∃ v, e = .returned v ∧ R v w' :=
  calls_of_tr (n := 58) (c := bodyOf Tryz.f44) (.two .leaf (.two (.two .leaf (.two (.two .leaf .leaf) .leaf)) (.two (.two .leaf (.two (.two .leaf .leaf) .leaf)) (.two (.two .leaf (.one (.loop [3] (.two (.two .leaf (.two .leaf .leaf)) (.two (.one (.two (.draw [(true, 0), (true, 1), (true, 2), (true, 3), (true, 4), (true, 5), (true, 6), (true, 7), (true, 8), (true, 9), (true, 10), (true, 11), (true, 12), (true, 13), (true, 14), (true, 15), (true, 16), (true, 17), (true, 18), (true, 19), (true, 20), (true, 21), (true, 22), (true, 23), (true, 24), (true, 25), (true, 26), (true, 27), (true, 28)]) (.two (.two .leaf .leaf) .leaf))) .leaf))))) (.two .leaf .leaf))))) Tryz.func44 (by kernel_rfl) Tryz.ntmps44 (by kernel_rfl) (by kernel_rfl) [a0] (by kernel_rfl) (of_eq_ (by kernel_rfl) h)

/-- shelfmark/shelfmarkref03.Compare -/
def S51 (a0 a1 : Value) (R : Value → World → Prop) (w : World) : Prop :=
  CallP Tryz.prog 43 #[a0] (fun v7 w =>
  LiftP Tryz.prog (binS Go.BinOp.neq 29 (Go.Operand.tmp 7) (Go.Operand.const (Go.Value.int Go.IntKind.i64 0)) v7 (Go.Value.int Go.IntKind.i64 0)) (fun v8 w =>
  GuardP v8 false (fun K w => K a1 w) (fun v10 w =>
  GuardP v8 false (fun K w => CallP Tryz.prog 43 #[v10] K w) (fun v11 w =>
  GuardP v8 false (fun K w => LiftP Tryz.prog (binS Go.BinOp.neq 29 (Go.Operand.tmp 11) (Go.Operand.const (Go.Value.int Go.IntKind.i64 0)) v11 (Go.Value.int Go.IntKind.i64 0)) K w) (fun v12 w =>
  PickP v8 (Go.Value.bool true) v12 (fun v13 w =>
  CondP v13 (fun w =>
    R (Go.Value.int Go.IntKind.i64 0) w) (fun w =>
    LoopP (fun J vs w =>   -- [5]
    NextP Tryz.prog (builtin Go.Builtin.len #[22] 3 #[false] #[a0]) (fun v16 w =>
    LiftP Tryz.prog (binS Go.BinOp.lss 3 (Go.Operand.tmp 14) (Go.Operand.tmp 16) (vs.headD undef) v16) (fun v17 w =>
    GuardP v17 true (fun K w => K (vs.headD undef) w) (fun v19 w =>
    GuardP v17 true (fun K w => K a1 w) (fun v20 w =>
    GuardP v17 true (fun K w => NextP Tryz.prog (builtin Go.Builtin.len #[22] 3 #[false] #[v20]) K w) (fun v21 w =>
    GuardP v17 true (fun K w => LiftP Tryz.prog (binS Go.BinOp.lss 3 (Go.Operand.tmp 19) (Go.Operand.tmp 21) v19 v21) K w) (fun v22 w =>
    PickP v17 v22 (Go.Value.bool false) (fun v23 w =>
    CondP v23 (fun w =>
      DrawP (fun S w =>
    YieldP Tryz.prog S (Instr.indexAt 22 a0 (vs.headD undef)) (fun v28 w =>
    YieldP Tryz.prog S (Instr.loadAt 67 v28) (fun v29 w =>
    YieldP Tryz.prog S (Instr.indexAt 22 a1 (vs.headD undef)) (fun v32 w =>
    YieldP Tryz.prog S (Instr.loadAt 67 v32) (fun v33 w =>
    CallP Tryz.prog 75 #[v29, v33] (fun v34 w =>
    CondP v34 (fun w =>
      R (Go.Value.int Go.IntKind.i64 (-1)) w) (fun w =>
      DrawP (fun S w =>
    YieldP Tryz.prog S (Instr.indexAt 22 a1 (vs.headD undef)) (fun v37 w =>
    YieldP Tryz.prog S (Instr.loadAt 67 v37) (fun v38 w =>
    YieldP Tryz.prog S (Instr.indexAt 22 a0 (vs.headD undef)) (fun v41 w =>
    YieldP Tryz.prog S (Instr.loadAt 67 v41) (fun v42 w =>
    CallP Tryz.prog 75 #[v38, v42] (fun v43 w =>
    CondP v43 (fun w =>
      R (Go.Value.int Go.IntKind.i64 1) w) (fun w =>
      LiftP Tryz.prog (binS Go.BinOp.add 3 (Go.Operand.tmp 24) (Go.Operand.const (Go.Value.int Go.IntKind.i64 1)) (vs.headD undef) (Go.Value.int Go.IntKind.i64 1)) (fun v25 w =>
    J [v25] w) w) w) w) w) w) w) w) w) w) w) w) w) w) w) w) (fun w =>
      NextP Tryz.prog (builtin Go.Builtin.len #[22] 3 #[false] #[a0]) (fun v45 w =>
  NextP Tryz.prog (builtin Go.Builtin.len #[22] 3 #[false] #[a1]) (fun v47 w =>
  LiftP Tryz.prog (binS Go.BinOp.lss 3 (Go.Operand.tmp 45) (Go.Operand.tmp 47) v45 v47) (fun v48 w =>
  CondP v48 (fun w =>
    R (Go.Value.int Go.IntKind.i64 (-1)) w) (fun w =>
    NextP Tryz.prog (builtin Go.Builtin.len #[22] 3 #[false] #[a0]) (fun v50 w =>
  NextP Tryz.prog (builtin Go.Builtin.len #[22] 3 #[false] #[a1]) (fun v52 w =>
  LiftP Tryz.prog (binS Go.BinOp.gtr 3 (Go.Operand.tmp 50) (Go.Operand.tmp 52) v50 v52) (fun v53 w =>
  CondP v53 (fun w =>
    R (Go.Value.int Go.IntKind.i64 1) w) (fun w =>
    R (Go.Value.int Go.IntKind.i64 0) w) w) w) w) w) w) w) w) w) w) w) w) w) w) w) w) w) [(Go.Value.int Go.IntKind.i64 0)] w) w) w) w) w) w) w) w
theorem S51.calls (a0 a1 : Value) (R : Value → World → Prop) (w : World) (h : S51 a0 a1 R w) : Calls Tryz.prog 51 #[a0, a1] w fun e w' => ∃ v, e = .returned v ∧ R v w' :=
  calls_of_tr (n := 54) (c := bodyOf Tryz.f51) (.two .leaf (.two (.two .leaf (.two (.two .leaf .leaf) .leaf)) (.two (.two .leaf (.one (.loop [5] (.two (.two .leaf (.two .leaf .leaf)) (.two (.one (.two (.two (.drawL [(true, 0), (true, 1), (true, 2), (true, 3), (true, 4), (true, 5), (true, 6), (true, 7)] 8) (.two (.two .leaf .leaf) .leaf)) (.two (.drawL [(true, 0), (true, 1), (true, 2), (true, 3), (true, 4), (true, 5), (true, 6), (true, 7)] 8) (.two (.two .leaf .leaf) .leaf)))) .leaf))))) (.two (.two .leaf (.two (.two .leaf .leaf) .leaf)) (.two (.two .leaf (.two (.two .leaf .leaf) .leaf)) (.two .leaf .leaf)))))) Tryz.func51 (by kernel_rfl) Tryz.ntmps51 (by kernel_rfl) (by kernel_rfl) [a0, a1] (by kernel_rfl) (of_eq_ (by kernel_rfl) h)

/-- shelfmark/shelfmarkref03.Good -/
def S68 (a0 : Value) (R : Value → World → Prop) (w : World) : Prop :=
  LiftP Tryz.prog (Instr.box 67 a0) (fun v1 w =>
  LiftP Tryz.prog (Instr.fieldAt 67 v1 0) (fun v3 w =>
  LiftP Tryz.prog (Instr.loadAt 3 v3) (fun v4 w =>
  LiftP Tryz.prog (binS Go.BinOp.eql 3 (Go.Operand.tmp 4) (Go.Operand.const (Go.Value.int Go.IntKind.i64 0)) v4 (Go.Value.int Go.IntKind.i64 0)) (fun v5 w =>
  GuardP v5 true (fun K w => LiftP Tryz.prog (Instr.fieldAt 67 v1 1) K w) (fun v7 w =>
  GuardP v5 true (fun K w => LiftP Tryz.prog (Instr.loadAt 3 v7) K w) (fun v8 w =>
  GuardP v5 true (fun K w => LiftP Tryz.prog (binS Go.BinOp.eql 3 (Go.Operand.tmp 8) (Go.Operand.const (Go.Value.int Go.IntKind.i64 0)) v8 (Go.Value.int Go.IntKind.i64 0)) K w) (fun v9 w =>
  PickP v5 v9 (Go.Value.bool false) (fun v10 w =>
  GuardP v10 true (fun K w => LiftP Tryz.prog (Instr.fieldAt 67 v1 2) K w) (fun v12 w =>
  GuardP v10 true (fun K w => LiftP Tryz.prog (Instr.loadAt 9 v12) K w) (fun v13 w =>
  GuardP v10 true (fun K w => LiftP Tryz.prog (binS Go.BinOp.eql 9 (Go.Operand.tmp 13) (Go.Operand.const (Go.Value.string { data := #[] })) v13 (Go.Value.string { data := #[] })) K w) (fun v14 w =>
  PickP v10 v14 (Go.Value.bool false) (fun v15 w =>
  GuardP v15 false (fun K w => LiftP Tryz.prog (Instr.fieldAt 67 v1 0) K w) (fun v17 w =>
  GuardP v15 false (fun K w => LiftP Tryz.prog (Instr.loadAt 3 v17) K w) (fun v18 w =>
  GuardP v15 false (fun K w => LiftP Tryz.prog (binS Go.BinOp.eql 3 (Go.Operand.tmp 18) (Go.Operand.const (Go.Value.int Go.IntKind.i64 1)) v18 (Go.Value.int Go.IntKind.i64 1)) K w) (fun v19 w =>
  GuardP v15 false (fun K w => K v19 w) (fun v20 w =>
  GuardP v20 true (fun K w => LiftP Tryz.prog (Instr.fieldAt 67 v1 2) K w) (fun v21 w =>
  GuardP v20 true (fun K w => LiftP Tryz.prog (Instr.loadAt 9 v21) K w) (fun v22 w =>
  GuardP v20 true (fun K w => LiftP Tryz.prog (binS Go.BinOp.eql 9 (Go.Operand.tmp 22) (Go.Operand.const (Go.Value.string { data := #[] })) v22 (Go.Value.string { data := #[] })) K w) (fun v23 w =>
  GuardP v15 false (fun K w => PickP v20 v23 (Go.Value.bool false) K w) (fun v24 w =>
  PickP v15 (Go.Value.bool true) v24 (fun v25 w =>
  GuardP v25 false (fun K w => LiftP Tryz.prog (Instr.fieldAt 67 v1 0) K w) (fun v27 w =>
  GuardP v25 false (fun K w => LiftP Tryz.prog (Instr.loadAt 3 v27) K w) (fun v28 w =>
  GuardP v25 false (fun K w => LiftP Tryz.prog (binS Go.BinOp.eql 3 (Go.Operand.tmp 28) (Go.Operand.const (Go.Value.int Go.IntKind.i64 2)) v28 (Go.Value.int Go.IntKind.i64 2)) K w) (fun v29 w =>
  GuardP v25 false (fun K w => K v29 w) (fun v30 w =>
  GuardP v30 true (fun K w => LiftP Tryz.prog (Instr.fieldAt 67 v1 1) K w) (fun v31 w =>
  GuardP v30 true (fun K w => LiftP Tryz.prog (Instr.loadAt 3 v31) K w) (fun v32 w =>
  GuardP v30 true (fun K w => LiftP Tryz.prog (binS Go.BinOp.eql 3 (Go.Operand.tmp 32) (Go.Operand.const (Go.Value.int Go.IntKind.i64 0)) v32 (Go.Value.int Go.IntKind.i64 0)) K w) (fun v33 w =>
  GuardP v25 false (fun K w => PickP v30 v33 (Go.Value.bool false) K w) (fun v34 w =>
  GuardP v25 false (fun K w => K v34 w) (fun v35 w =>
  GuardP v35 true (fun K w => LiftP Tryz.prog (Instr.fieldAt 67 v1 2) K w) (fun v36 w =>
  GuardP v35 true (fun K w => LiftP Tryz.prog (Instr.loadAt 9 v36) K w) (fun v37 w =>
  GuardP v35 true (fun K w => NextP Tryz.prog (builtin Go.Builtin.len #[9] 3 #[false] #[v37]) K w) (fun v38 w =>
  GuardP v35 true (fun K w => LiftP Tryz.prog (binS Go.BinOp.leq 3 (Go.Operand.tmp 38) (Go.Operand.const (Go.Value.int Go.IntKind.i64 32)) v38 (Go.Value.int Go.IntKind.i64 32)) K w) (fun v39 w =>
  GuardP v25 false (fun K w => PickP v35 v39 (Go.Value.bool false) K w) (fun v40 w =>
  PickP v25 (Go.Value.bool true) v40 (fun v41 w =>
  R v41 w) w) w) w) w) w) w) w) w) w) w) w) w) w) w) w) w) w) w) w) w) w) w) w) w) w) w) w) w) w) w) w) w) w) w) w) w
theorem S68.calls (a0 : Value) (R : Value → World → Prop) (w : World) (h : S68 a0 R w) : Calls Tryz.prog 68 #[a0] w fun e w' => ∃ v, e = .returned v ∧ R v w' :=
  calls_of_tr (n := 42) (c := bodyOf Tryz.f68) (.two .leaf (.two .leaf .leaf)) Tryz.func68 (by kernel_rfl) Tryz.ntmps68 (by kernel_rfl) (by kernel_rfl) [a0] (by kernel_rfl) (of_eq_ (by kernel_rfl) h)

/-- shelfmark/shelfmarkref03.Below -/
def S75 (a0 a1 : Value) (R : Value → World → Prop) (w : World) : Prop :=
  LiftP Tryz.prog (Instr.box 67 a0) (fun v2 w =>
  LiftP Tryz.prog (Instr.box 67 a1) (fun v3 w =>
  LiftP Tryz.prog (Instr.fieldAt 67 v2 0) (fun v5 w =>
  LiftP Tryz.prog (Instr.loadAt 3 v5) (fun v6 w =>
  LiftP Tryz.prog (Instr.fieldAt 67 v3 0) (fun v7 w =>
  LiftP Tryz.prog (Instr.loadAt 3 v7) (fun v8 w =>
  LiftP Tryz.prog (binS Go.BinOp.neq 3 (Go.Operand.tmp 6) (Go.Operand.tmp 8) v6 v8) (fun v9 w =>
  CondP v9 (fun w =>
    LiftP Tryz.prog (Instr.fieldAt 67 v2 0) (fun v10 w =>
    LiftP Tryz.prog (Instr.loadAt 3 v10) (fun v11 w =>
    LiftP Tryz.prog (Instr.fieldAt 67 v3 0) (fun v12 w =>
    LiftP Tryz.prog (Instr.loadAt 3 v12) (fun v13 w =>
    LiftP Tryz.prog (binS Go.BinOp.lss 3 (Go.Operand.tmp 11) (Go.Operand.tmp 13) v11 v13) (fun v14 w =>
    R v14 w) w) w) w) w) w) (fun w =>
    LiftP Tryz.prog (Instr.fieldAt 67 v2 0) (fun v15 w =>
  LiftP Tryz.prog (Instr.loadAt 3 v15) (fun v16 w =>
  LiftP Tryz.prog (binS Go.BinOp.eql 3 (Go.Operand.tmp 16) (Go.Operand.const (Go.Value.int Go.IntKind.i64 1)) v16 (Go.Value.int Go.IntKind.i64 1)) (fun v17 w =>
  CondP v17 (fun w =>
    LiftP Tryz.prog (Instr.fieldAt 67 v2 1) (fun v18 w =>
    LiftP Tryz.prog (Instr.loadAt 3 v18) (fun v19 w =>
    LiftP Tryz.prog (Instr.fieldAt 67 v3 1) (fun v20 w =>
    LiftP Tryz.prog (Instr.loadAt 3 v20) (fun v21 w =>
    LiftP Tryz.prog (binS Go.BinOp.lss 3 (Go.Operand.tmp 19) (Go.Operand.tmp 21) v19 v21) (fun v22 w =>
    R v22 w) w) w) w) w) w) (fun w =>
    LiftP Tryz.prog (Instr.fieldAt 67 v2 2) (fun v23 w =>
  LiftP Tryz.prog (Instr.loadAt 9 v23) (fun v24 w =>
  LiftP Tryz.prog (Instr.fieldAt 67 v3 2) (fun v25 w =>
  LiftP Tryz.prog (Instr.loadAt 9 v25) (fun v26 w =>
  LiftP Tryz.prog (binS Go.BinOp.lss 9 (Go.Operand.tmp 24) (Go.Operand.tmp 26) v24 v26) (fun v27 w =>
  R v27 w) w) w) w) w) w) w) w) w) w) w) w) w) w) w) w) w) w
theorem S75.calls (a0 a1 : Value) (R : Value → World → Prop) (w : World) (h : S75 a0 a1 R w) : Calls Tryz.prog 75 #[a0, a1] w fun e w' => ∃ v, e = .returned v ∧ R v w' :=
  calls_of_tr (n := 28) (c := bodyOf Tryz.f75) (.two .leaf (.two (.two .leaf (.two (.two .leaf .leaf) .leaf)) (.two (.two .leaf (.two (.two .leaf .leaf) .leaf)) (.two .leaf .leaf)))) Tryz.func75 (by kernel_rfl) Tryz.ntmps75 (by kernel_rfl) (by kernel_rfl) [a0, a1] (by kernel_rfl) (of_eq_ (by kernel_rfl) h)

end Go.Proofs.YtonblppkidpmlaaGreatDoor.E
