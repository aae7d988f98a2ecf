import Derived.Test.YtonblppkidpmlaaGreatDoorM1
import Derived.Test.YtonblppkidpmlaaGreatDoorProg
import Derived.KernelRfl
namespace Go.Proofs.YtonblppkidpmlaaGreatDoor.E
open Go
set_option maxRecDepth 100000

/-- shelfmark/shelfmarkref05.Light -/
def S10 (a0 : Value) (R : Value → World → Prop) (w : World) : Prop :=
  LiftP Tryz.prog (Instr.box 26 a0) (fun v1 w =>
  LiftP Tryz.prog (Instr.fieldAt 26 v1 1) (fun v3 w =>
  LiftP Tryz.prog (Instr.loadAt 9 v3) (fun v4 w =>
  NextP Tryz.prog (builtin Go.Builtin.len #[9] 3 #[false] #[v4]) (fun v5 w =>
  LiftP Tryz.prog (binS Go.BinOp.leq 3 (Go.Operand.tmp 5) (Go.Operand.const (Go.Value.int Go.IntKind.i64 300)) v5 (Go.Value.int Go.IntKind.i64 300)) (fun v6 w =>
  GuardP v6 true (fun K w => LiftP Tryz.prog (Instr.fieldAt 26 v1 2) K w) (fun v8 w =>
  GuardP v6 true (fun K w => LiftP Tryz.prog (Instr.loadAt 9 v8) K w) (fun v9 w =>
  GuardP v6 true (fun K w => NextP Tryz.prog (builtin Go.Builtin.len #[9] 3 #[false] #[v9]) K w) (fun v10 w =>
  GuardP v6 true (fun K w => LiftP Tryz.prog (binS Go.BinOp.leq 3 (Go.Operand.tmp 10) (Go.Operand.const (Go.Value.int Go.IntKind.i64 300)) v10 (Go.Value.int Go.IntKind.i64 300)) K w) (fun v11 w =>
  PickP v6 v11 (Go.Value.bool false) (fun v12 w =>
  GuardP v12 true (fun K w => LiftP Tryz.prog (Instr.fieldAt 26 v1 6) K w) (fun v14 w =>
  GuardP v12 true (fun K w => LiftP Tryz.prog (Instr.loadAt 24 v14) K w) (fun v15 w =>
  GuardP v12 true (fun K w => NextP Tryz.prog (builtin Go.Builtin.len #[24] 3 #[false] #[v15]) K w) (fun v16 w =>
  GuardP v12 true (fun K w => LiftP Tryz.prog (binS Go.BinOp.leq 3 (Go.Operand.tmp 16) (Go.Operand.const (Go.Value.int Go.IntKind.i64 300)) v16 (Go.Value.int Go.IntKind.i64 300)) K w) (fun v17 w =>
  PickP v12 v17 (Go.Value.bool false) (fun v18 w =>
  GuardP v18 true (fun K w => LiftP Tryz.prog (Instr.fieldAt 26 v1 3) K w) (fun v20 w =>
  GuardP v18 true (fun K w => LiftP Tryz.prog (Instr.loadAt 23 v20) K w) (fun v21 w =>
  GuardP v18 true (fun K w => CallP Tryz.prog 19 #[v21, (Go.Value.int Go.IntKind.i64 300)] K w) (fun v22 w =>
  PickP v18 v22 (Go.Value.bool false) (fun v23 w =>
  GuardP v23 true (fun K w => LiftP Tryz.prog (Instr.fieldAt 26 v1 4) K w) (fun v25 w =>
  GuardP v23 true (fun K w => LiftP Tryz.prog (Instr.loadAt 23 v25) K w) (fun v26 w =>
  GuardP v23 true (fun K w => CallP Tryz.prog 19 #[v26, (Go.Value.int Go.IntKind.i64 300)] K w) (fun v27 w =>
  PickP v23 v27 (Go.Value.bool false) (fun v28 w =>
  GuardP v28 true (fun K w => LiftP Tryz.prog (Instr.fieldAt 26 v1 7) K w) (fun v30 w =>
  GuardP v28 true (fun K w => LiftP Tryz.prog (Instr.loadAt 22 v30) K w) (fun v31 w =>
  GuardP v28 true (fun K w => CallP Tryz.prog 19 #[v31, (Go.Value.int Go.IntKind.i64 300)] K w) (fun v32 w =>
  PickP v28 v32 (Go.Value.bool false) (fun v33 w =>
  GuardP v33 true (fun K w => LiftP Tryz.prog (Instr.fieldAt 26 v1 8) K w) (fun v35 w =>
  GuardP v33 true (fun K w => LiftP Tryz.prog (Instr.loadAt 22 v35) K w) (fun v36 w =>
  GuardP v33 true (fun K w => CallP Tryz.prog 19 #[v36, (Go.Value.int Go.IntKind.i64 300)] K w) (fun v37 w =>
  PickP v33 v37 (Go.Value.bool false) (fun v38 w =>
  R v38 w) w) w) w) w) w) w) w) w) w) w) w) w) w) w) w) w) w) w) w) w) w) w) w) w) w) w) w) w) w) w) w
theorem S10.calls (a0 : Value) (R : Value → World → Prop) (w : World) (h : S10 a0 R w) : Calls Tryz.prog 10 #[a0] w fun e w' => ∃ v, e = .returned v ∧ R v w' :=
  calls_of_tr (n := 39) (c := bodyOf Tryz.f10) (.two .leaf (.two .leaf .leaf)) Tryz.func10 (by kernel_rfl) Tryz.ntmps10 (by kernel_rfl) (by kernel_rfl) [a0] (by kernel_rfl) (of_eq_ (by kernel_rfl) h)

/-- shelfmark/shelfmarkref05.AllLight -/
def S13 (a0 a1 : Value) (R : Value → World → Prop) (w : World) : Prop :=
  NextP Tryz.prog (builtin Go.Builtin.len #[31] 3 #[false] #[a0]) (fun v7 w =>
  LiftP Tryz.prog (binS Go.BinOp.gtr 3 (Go.Operand.tmp 7) (Go.Operand.tmp 8) v7 a1) (fun v9 w =>
  CondP v9 (fun w =>
    R (Go.Value.bool false) w) (fun w =>
    LoopP (fun J vs w =>   -- [5]
    NextP Tryz.prog (builtin Go.Builtin.len #[31] 3 #[false] #[a0]) (fun v12 w =>
    LiftP Tryz.prog (binS Go.BinOp.lss 3 (Go.Operand.tmp 10) (Go.Operand.tmp 12) (vs.headD undef) v12) (fun v13 w =>
    CondP v13 (fun w =>
      LiftP Tryz.prog (Instr.indexAt 31 a0 (vs.headD undef)) (fun v18 w =>
    LiftP Tryz.prog (Instr.loadAt 26 v18) (fun v19 w =>
    CallP Tryz.prog 10 #[v19] (fun v20 w =>
    LiftP Tryz.prog (Op.unary Go.UnOp.not v20) (fun v21 w =>
    CondP v21 (fun w =>
      R (Go.Value.bool false) w) (fun w =>
      LiftP Tryz.prog (binS Go.BinOp.add 3 (Go.Operand.tmp 14) (Go.Operand.const (Go.Value.int Go.IntKind.i64 1)) (vs.headD undef) (Go.Value.int Go.IntKind.i64 1)) (fun v15 w =>
    J [v15] w) w) w) w) w) w) w) (fun w =>
      R (Go.Value.bool true) w) w) w) w) [(Go.Value.int Go.IntKind.i64 0)] w) w) w) w
theorem S13.calls (a0 a1 : Value) (R : Value → World → Prop) (w : World) (h : S13 a0 a1 R w) : Calls Tryz.prog 13 #[a0, a1] w fun e w' => ∃ v, e = .returned v ∧ R v w' :=
  calls_of_tr (n := 22) (c := bodyOf Tryz.f13) (.two .leaf (.two (.two .leaf (.two (.two .leaf .leaf) .leaf)) (.two (.two .leaf (.one (.loop [5] (.two (.two .leaf (.two .leaf .leaf)) (.two (.one (.two .leaf (.two (.two .leaf .leaf) .leaf))) .leaf))))) (.two .leaf .leaf)))) Tryz.func13 (by kernel_rfl) Tryz.ntmps13 (by kernel_rfl) (by kernel_rfl) [a0, a1] (by kernel_rfl) (of_eq_ (by kernel_rfl) h)

/-- shelfmark/shelfmarkref05.SameRows -/
def S16 (a0 a1 : Value) (R : Value → World → Prop) (w : World) : Prop :=
  NextP Tryz.prog (builtin Go.Builtin.len #[35] 3 #[false] #[a0]) (fun v7 w =>
  NextP Tryz.prog (builtin Go.Builtin.len #[35] 3 #[false] #[a1]) (fun v9 w =>
  LiftP Tryz.prog (binS Go.BinOp.neq 3 (Go.Operand.tmp 7) (Go.Operand.tmp 9) v7 v9) (fun v10 w =>
  CondP v10 (fun w =>
    R (Go.Value.bool false) w) (fun w =>
    LoopP (fun J vs w =>   -- [5]
    NextP Tryz.prog (builtin Go.Builtin.len #[35] 3 #[false] #[a0]) (fun v13 w =>
    LiftP Tryz.prog (binS Go.BinOp.lss 3 (Go.Operand.tmp 11) (Go.Operand.tmp 13) (vs.headD undef) v13) (fun v14 w =>
    CondP v14 (fun w =>
      DrawP (fun S w =>
    YieldP Tryz.prog S (Instr.indexAt 35 a0 (vs.headD undef)) (fun v19 w =>
    YieldP Tryz.prog S (Instr.fieldAt 40 v19 0) (fun v20 w =>
    YieldP Tryz.prog S (Instr.loadAt 9 v20) (fun v21 w =>
    YieldP Tryz.prog S (Instr.indexAt 35 a1 (vs.headD undef)) (fun v24 w =>
    YieldP Tryz.prog S (Instr.fieldAt 40 v24 0) (fun v25 w =>
    YieldP Tryz.prog S (Instr.loadAt 9 v25) (fun v26 w =>
    YieldP Tryz.prog S (binS Go.BinOp.neq 9 (Go.Operand.tmp 21) (Go.Operand.tmp 26) v21 v26) (fun v27 w =>
    GuardP v27 false (fun K w => K a0 w) (fun v29 w =>
    GuardP v27 false (fun K w => K (vs.headD undef) w) (fun v30 w =>
    GuardP v27 false (fun K w => YieldP Tryz.prog S (Instr.indexAt 35 v29 v30) K w) (fun v31 w =>
    GuardP v27 false (fun K w => YieldP Tryz.prog S (Instr.fieldAt 40 v31 1) K w) (fun v32 w =>
    GuardP v27 false (fun K w => YieldP Tryz.prog S (Instr.loadAt 23 v32) K w) (fun v33 w =>
    GuardP v27 false (fun K w => K a1 w) (fun v34 w =>
    GuardP v27 false (fun K w => K (vs.headD undef) w) (fun v35 w =>
    GuardP v27 false (fun K w => YieldP Tryz.prog S (Instr.indexAt 35 v34 v35) K w) (fun v36 w =>
    GuardP v27 false (fun K w => YieldP Tryz.prog S (Instr.fieldAt 40 v36 1) K w) (fun v37 w =>
    GuardP v27 false (fun K w => YieldP Tryz.prog S (Instr.loadAt 23 v37) K w) (fun v38 w =>
    GuardA v27 false S (fun K w => CallP Tryz.prog 17 #[v33, v38] K w) (fun S v39 w =>
    GuardP v27 false (fun K w => YieldP Tryz.prog S (Op.unary Go.UnOp.not v39) K w) (fun v40 w =>
    PickP v27 (Go.Value.bool true) v40 (fun v41 w =>
    CondP v41 (fun w =>
      R (Go.Value.bool false) w) (fun w =>
      LiftP Tryz.prog (binS Go.BinOp.add 3 (Go.Operand.tmp 15) (Go.Operand.const (Go.Value.int Go.IntKind.i64 1)) (vs.headD undef) (Go.Value.int Go.IntKind.i64 1)) (fun v16 w =>
    J [v16] w) w) w) w) w) w) w) w) w) w) w) w) w) w) w) w) w) w) w) w) w) w) w) w) (fun w =>
      R (Go.Value.bool true) w) w) w) w) [(Go.Value.int Go.IntKind.i64 0)] w) w) w) w) w
theorem S16.calls (a0 a1 : Value) (R : Value → World → Prop) (w : World) (h : S16 a0 a1 R w) : Calls Tryz.prog 16 #[a0, a1] w fun e w' => ∃ v, e = .returned v ∧ R v w' :=
  calls_of_tr (n := 42) (c := bodyOf Tryz.f16) (.two .leaf (.two (.two .leaf (.two (.two .leaf .leaf) .leaf)) (.two (.two .leaf (.one (.loop [5] (.two (.two .leaf (.two .leaf .leaf)) (.two (.one (.two (.draw [(true, 0), (true, 1), (true, 2), (true, 3), (true, 4), (true, 5), (true, 6), (true, 7), (true, 8), (true, 9), (true, 10), (true, 11), (true, 12), (true, 13), (true, 14), (true, 15), (true, 16), (true, 17), (true, 18), (true, 19), (true, 20), (true, 21), (false, 22), (true, 23), (true, 24)]) (.two (.two .leaf .leaf) .leaf))) .leaf))))) (.two .leaf .leaf)))) Tryz.func16 (by kernel_rfl) Tryz.ntmps16 (by kernel_rfl) (by kernel_rfl) [a0, a1] (by kernel_rfl) (of_eq_ (by kernel_rfl) h)

/-- shelfmark/shelfmarkref03.Same -/
def S17 (a0 a1 : Value) (R : Value → World → Prop) (w : World) : Prop :=
  NextP Tryz.prog (builtin Go.Builtin.len #[22] 3 #[false] #[a0]) (fun v7 w =>
  NextP Tryz.prog (builtin Go.Builtin.len #[22] 3 #[false] #[a1]) (fun v9 w =>
  LiftP Tryz.prog (binS Go.BinOp.neq 3 (Go.Operand.tmp 7) (Go.Operand.tmp 9) v7 v9) (fun v10 w =>
  CondP v10 (fun w =>
    R (Go.Value.bool false) w) (fun w =>
    LoopP (fun J vs w =>   -- [5]
    NextP Tryz.prog (builtin Go.Builtin.len #[22] 3 #[false] #[a0]) (fun v13 w =>
    LiftP Tryz.prog (binS Go.BinOp.lss 3 (Go.Operand.tmp 11) (Go.Operand.tmp 13) (vs.headD undef) v13) (fun v14 w =>
    CondP v14 (fun w =>
      DrawP (fun S w =>
    YieldP Tryz.prog S (Instr.indexAt 22 a0 (vs.headD undef)) (fun v19 w =>
    YieldP Tryz.prog S (Instr.loadAt 67 v19) (fun v20 w =>
    YieldP Tryz.prog S (Instr.indexAt 22 a1 (vs.headD undef)) (fun v23 w =>
    YieldP Tryz.prog S (Instr.loadAt 67 v23) (fun v24 w =>
    YieldP Tryz.prog S (binS Go.BinOp.neq 67 (Go.Operand.tmp 20) (Go.Operand.tmp 24) v20 v24) (fun v25 w =>
    CondP v25 (fun w =>
      R (Go.Value.bool false) w) (fun w =>
      LiftP Tryz.prog (binS Go.BinOp.add 3 (Go.Operand.tmp 15) (Go.Operand.const (Go.Value.int Go.IntKind.i64 1)) (vs.headD undef) (Go.Value.int Go.IntKind.i64 1)) (fun v16 w =>
    J [v16] w) w) w) w) w) w) w) w) w) (fun w =>
      R (Go.Value.bool true) w) w) w) w) [(Go.Value.int Go.IntKind.i64 0)] w) w) w) w) w
theorem S17.calls (a0 a1 : Value) (R : Value → World → Prop) (w : World) (h : S17 a0 a1 R w) : Calls Tryz.prog 17 #[a0, a1] w fun e w' => ∃ v, e = .returned v ∧ R v w' :=
  calls_of_tr (n := 26) (c := bodyOf Tryz.f17) (.two .leaf (.two (.two .leaf (.two (.two .leaf .leaf) .leaf)) (.two (.two .leaf (.one (.loop [5] (.two (.two .leaf (.two .leaf .leaf)) (.two (.one (.two (.draw [(true, 0), (true, 1), (true, 2), (true, 3), (true, 4), (true, 5), (true, 6), (true, 7), (true, 8)]) (.two (.two .leaf .leaf) .leaf))) .leaf))))) (.two .leaf .leaf)))) Tryz.func17 (by kernel_rfl) Tryz.ntmps17 (by kernel_rfl) (by kernel_rfl) [a0, a1] (by kernel_rfl) (of_eq_ (by kernel_rfl) h)

/-- shelfmark/shelfmarkref03.Light -/
def S19 (a0 a1 : Value) (R : Value → World → Prop) (w : World) : Prop :=
  LoopP (fun J vs w =>   -- [5, 6]
    NextP Tryz.prog (builtin Go.Builtin.len #[22] 3 #[false] #[a0]) (fun v9 w =>
    LiftP Tryz.prog (binS Go.BinOp.lss 3 (Go.Operand.tmp 7) (Go.Operand.tmp 9) (vs.tail.headD undef) v9) (fun v10 w =>
    CondP v10 (fun w =>
      LiftP Tryz.prog (Instr.indexAt 22 a0 (vs.tail.headD undef)) (fun v15 w =>
    LiftP Tryz.prog (Instr.fieldAt 67 v15 2) (fun v16 w =>
    LiftP Tryz.prog (Instr.loadAt 9 v16) (fun v17 w =>
    NextP Tryz.prog (builtin Go.Builtin.len #[9] 3 #[false] #[v17]) (fun v18 w =>
    LiftP Tryz.prog (binS Go.BinOp.gtr 3 (Go.Operand.tmp 18) (Go.Operand.tmp 19) v18 a1) (fun v20 w =>
    GuardP v20 false (fun K w => K (vs.tail.headD undef) w) (fun v22 w =>
    GuardP v20 false (fun K w => K a1 w) (fun v23 w =>
    GuardP v20 false (fun K w => LiftP Tryz.prog (binS Go.BinOp.gtr 3 (Go.Operand.tmp 22) (Go.Operand.tmp 23) v22 v23) K w) (fun v24 w =>
    PickP v20 (Go.Value.bool true) v24 (fun v25 w =>
    CondP v25 (fun w =>
      R (Go.Value.bool false) w) (fun w =>
      LiftP Tryz.prog (Instr.indexAt 22 a0 (vs.tail.headD undef)) (fun v29 w =>
    LiftP Tryz.prog (Instr.fieldAt 67 v29 2) (fun v30 w =>
    LiftP Tryz.prog (Instr.loadAt 9 v30) (fun v31 w =>
    NextP Tryz.prog (builtin Go.Builtin.len #[9] 3 #[false] #[v31]) (fun v32 w =>
    LiftP Tryz.prog (binS Go.BinOp.add 3 (Go.Operand.tmp 26) (Go.Operand.tmp 32) (vs.headD undef) v32) (fun v33 w =>
    LiftP Tryz.prog (binS Go.BinOp.gtr 3 (Go.Operand.tmp 34) (Go.Operand.tmp 35) v33 a1) (fun v36 w =>
    CondP v36 (fun w =>
      R (Go.Value.bool false) w) (fun w =>
      LiftP Tryz.prog (binS Go.BinOp.add 3 (Go.Operand.tmp 11) (Go.Operand.const (Go.Value.int Go.IntKind.i64 1)) (vs.tail.headD undef) (Go.Value.int Go.IntKind.i64 1)) (fun v12 w =>
    J [v33, v12] w) w) w) w) w) w) w) w) w) w) w) w) w) w) w) w) w) w) w) (fun w =>
      R (Go.Value.bool true) w) w) w) w) [(Go.Value.int Go.IntKind.i64 0), (Go.Value.int Go.IntKind.i64 0)] w
theorem S19.calls (a0 a1 : Value) (R : Value → World → Prop) (w : World) (h : S19 a0 a1 R w) : Calls Tryz.prog 19 #[a0, a1] w fun e w' => ∃ v, e = .returned v ∧ R v w' :=
  calls_of_tr (n := 37) (c := bodyOf Tryz.f19) (.two .leaf (.two .leaf (.two (.two .leaf (.one (.loop [5, 6] (.two (.two .leaf (.two .leaf .leaf)) (.two (.one (.two (.two .leaf (.two (.two .leaf .leaf) .leaf)) (.two .leaf (.two .leaf (.two (.two .leaf .leaf) .leaf))))) .leaf))))) (.two .leaf .leaf)))) Tryz.func19 (by kernel_rfl) Tryz.ntmps19 (by kernel_rfl) (by kernel_rfl) [a0, a1] (by kernel_rfl) (of_eq_ (by kernel_rfl) h)

/-- shelfmark/shelfmarkref05.SameIndexes -/
def S29 (a0 a1 : Value) (R : Value → World → Prop) (w : World) : Prop :=
  NextP Tryz.prog (builtin Go.Builtin.len #[48] 3 #[false] #[a0]) (fun v8 w =>
  NextP Tryz.prog (builtin Go.Builtin.len #[48] 3 #[false] #[a1]) (fun v10 w =>
  LiftP Tryz.prog (binS Go.BinOp.neq 3 (Go.Operand.tmp 8) (Go.Operand.tmp 10) v8 v10) (fun v11 w =>
  CondP v11 (fun w =>
    R (Go.Value.bool false) w) (fun w =>
    LoopP (fun J vs w =>   -- [5]
    NextP Tryz.prog (builtin Go.Builtin.len #[48] 3 #[false] #[a0]) (fun v14 w =>
    LiftP Tryz.prog (binS Go.BinOp.lss 3 (Go.Operand.tmp 12) (Go.Operand.tmp 14) (vs.headD undef) v14) (fun v15 w =>
    CondP v15 (fun w =>
      DrawP (fun S w =>
    YieldP Tryz.prog S (Instr.indexAt 48 a0 (vs.headD undef)) (fun v20 w =>
    YieldP Tryz.prog S (Instr.fieldAt 53 v20 0) (fun v21 w =>
    YieldP Tryz.prog S (Instr.loadAt 3 v21) (fun v22 w =>
    YieldP Tryz.prog S (Instr.indexAt 48 a1 (vs.headD undef)) (fun v25 w =>
    YieldP Tryz.prog S (Instr.fieldAt 53 v25 0) (fun v26 w =>
    YieldP Tryz.prog S (Instr.loadAt 3 v26) (fun v27 w =>
    YieldP Tryz.prog S (binS Go.BinOp.neq 3 (Go.Operand.tmp 22) (Go.Operand.tmp 27) v22 v27) (fun v28 w =>
    GuardP v28 false (fun K w => K a0 w) (fun v30 w =>
    GuardP v28 false (fun K w => K (vs.headD undef) w) (fun v31 w =>
    GuardP v28 false (fun K w => YieldP Tryz.prog S (Instr.indexAt 48 v30 v31) K w) (fun v32 w =>
    GuardP v28 false (fun K w => YieldP Tryz.prog S (Instr.fieldAt 53 v32 1) K w) (fun v33 w =>
    GuardP v28 false (fun K w => YieldP Tryz.prog S (Instr.loadAt 24 v33) K w) (fun v34 w =>
    GuardP v28 false (fun K w => YieldN Tryz.prog S (builtin Go.Builtin.len #[24] 3 #[false] #[v34]) K w) (fun v35 w =>
    GuardP v28 false (fun K w => K a1 w) (fun v36 w =>
    GuardP v28 false (fun K w => K (vs.headD undef) w) (fun v37 w =>
    GuardP v28 false (fun K w => YieldP Tryz.prog S (Instr.indexAt 48 v36 v37) K w) (fun v38 w =>
    GuardP v28 false (fun K w => YieldP Tryz.prog S (Instr.fieldAt 53 v38 1) K w) (fun v39 w =>
    GuardP v28 false (fun K w => YieldP Tryz.prog S (Instr.loadAt 24 v39) K w) (fun v40 w =>
    GuardP v28 false (fun K w => YieldN Tryz.prog S (builtin Go.Builtin.len #[24] 3 #[false] #[v40]) K w) (fun v41 w =>
    GuardP v28 false (fun K w => YieldP Tryz.prog S (binS Go.BinOp.neq 3 (Go.Operand.tmp 35) (Go.Operand.tmp 41) v35 v41) K w) (fun v42 w =>
    PickP v28 (Go.Value.bool true) v42 (fun v43 w =>
    CondP v43 (fun w =>
      R (Go.Value.bool false) w) (fun w =>
      LoopP (fun J_1 vs_1 w =>   -- [6]
      LiftP Tryz.prog (Instr.indexAt 48 a0 (vs.headD undef)) (fun v47 w =>
      LiftP Tryz.prog (Instr.fieldAt 53 v47 1) (fun v48 w =>
      LiftP Tryz.prog (Instr.loadAt 24 v48) (fun v49 w =>
      NextP Tryz.prog (builtin Go.Builtin.len #[24] 3 #[false] #[v49]) (fun v50 w =>
      LiftP Tryz.prog (binS Go.BinOp.lss 3 (Go.Operand.tmp 44) (Go.Operand.tmp 50) (vs_1.headD undef) v50) (fun v51 w =>
      CondP v51 (fun w =>
        DrawP (fun S w =>
      YieldP Tryz.prog S (Instr.indexAt 48 a0 (vs.headD undef)) (fun v56 w =>
      YieldP Tryz.prog S (Instr.fieldAt 53 v56 1) (fun v57 w =>
      YieldP Tryz.prog S (Instr.loadAt 24 v57) (fun v58 w =>
      YieldP Tryz.prog S (Instr.indexAt 24 v58 (vs_1.headD undef)) (fun v60 w =>
      YieldP Tryz.prog S (Instr.loadAt 3 v60) (fun v61 w =>
      YieldP Tryz.prog S (Instr.indexAt 48 a1 (vs.headD undef)) (fun v64 w =>
      YieldP Tryz.prog S (Instr.fieldAt 53 v64 1) (fun v65 w =>
      YieldP Tryz.prog S (Instr.loadAt 24 v65) (fun v66 w =>
      YieldP Tryz.prog S (Instr.indexAt 24 v66 (vs_1.headD undef)) (fun v68 w =>
      YieldP Tryz.prog S (Instr.loadAt 3 v68) (fun v69 w =>
      YieldP Tryz.prog S (binS Go.BinOp.neq 3 (Go.Operand.tmp 61) (Go.Operand.tmp 69) v61 v69) (fun v70 w =>
      CondP v70 (fun w =>
        R (Go.Value.bool false) w) (fun w =>
        LiftP Tryz.prog (binS Go.BinOp.add 3 (Go.Operand.tmp 52) (Go.Operand.const (Go.Value.int Go.IntKind.i64 1)) (vs_1.headD undef) (Go.Value.int Go.IntKind.i64 1)) (fun v53 w =>
      J_1 [v53] w) w) w) w) w) w) w) w) w) w) w) w) w) w) w) (fun w =>
        LiftP Tryz.prog (binS Go.BinOp.add 3 (Go.Operand.tmp 16) (Go.Operand.const (Go.Value.int Go.IntKind.i64 1)) (vs.headD undef) (Go.Value.int Go.IntKind.i64 1)) (fun v17 w =>
    J [v17] w) w) w) w) w) w) w) w) [(Go.Value.int Go.IntKind.i64 0)] w) w) w) w) w) w) w) w) w) w) w) w) w) w) w) w) w) w) w) w) w) w) w) w) (fun w =>
      R (Go.Value.bool true) w) w) w) w) [(Go.Value.int Go.IntKind.i64 0)] w) w) w) w) w
theorem S29.calls (a0 a1 : Value) (R : Value → World → Prop) (w : World) (h : S29 a0 a1 R w) : Calls Tryz.prog 29 #[a0, a1] w fun e w' => ∃ v, e = .returned v ∧ R v w' :=
  calls_of_tr (n := 71) (c := bodyOf Tryz.f29) (.two .leaf (.two (.two .leaf (.two (.two .leaf .leaf) .leaf)) (.two (.two .leaf (.one (.loop [5] (.two (.two .leaf (.two .leaf .leaf)) (.two (.one (.two (.two (.draw [(true, 0), (true, 1), (true, 2), (true, 3), (true, 4), (true, 5), (true, 6), (true, 7), (true, 8), (true, 9), (true, 10), (true, 11), (true, 12), (true, 13), (true, 14), (true, 15), (true, 16), (true, 17), (true, 18), (true, 19), (true, 20), (true, 21), (true, 22), (true, 23), (true, 24), (true, 25)]) (.two (.two .leaf .leaf) .leaf)) (.two .leaf (.one (.loop [6] (.two (.two .leaf (.two .leaf .leaf)) (.two (.one (.two (.draw [(true, 0), (true, 1), (true, 2), (true, 3), (true, 4), (true, 5), (true, 6), (true, 7), (true, 8), (true, 9), (true, 10), (true, 11), (true, 12), (true, 13), (true, 14), (true, 15), (true, 16)]) (.two (.two .leaf .leaf) .leaf))) .leaf))))))) .leaf))))) (.two .leaf .leaf)))) Tryz.func29 (by kernel_rfl) Tryz.ntmps29 (by kernel_rfl) (by kernel_rfl) [a0, a1] (by kernel_rfl) (of_eq_ (by kernel_rfl) h)

end Go.Proofs.YtonblppkidpmlaaGreatDoor.E
