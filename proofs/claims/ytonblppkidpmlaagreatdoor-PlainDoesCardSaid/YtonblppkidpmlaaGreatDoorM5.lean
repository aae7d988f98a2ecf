import Derived.Test.YtonblppkidpmlaaGreatDoorM1
import Derived.Test.YtonblppkidpmlaaGreatDoorProg
import Derived.KernelRfl
namespace Go.Proofs.YtonblppkidpmlaaGreatDoor.E
open Go
set_option maxRecDepth 100000

/-- shelfmark/record.Key -/
def S33 (a0 : Value) (R : Value → World → Prop) (w : World) : Prop :=
  NextP Tryz.prog (builtin Go.Builtin.len #[9] 3 #[false] #[a0]) (fun v4 w =>
  LiftP Tryz.prog (binS Go.BinOp.gtr 3 (Go.Operand.tmp 4) (Go.Operand.const (Go.Value.int Go.IntKind.i64 0)) v4 (Go.Value.int Go.IntKind.i64 0)) (fun v5 w =>
  GuardP v5 true (fun K w => K a0 w) (fun v7 w =>
  GuardP v5 true (fun K w => NextP Tryz.prog (builtin Go.Builtin.len #[9] 3 #[false] #[v7]) K w) (fun v8 w =>
  GuardP v5 true (fun K w => LiftP Tryz.prog (binS Go.BinOp.leq 3 (Go.Operand.tmp 8) (Go.Operand.const (Go.Value.int Go.IntKind.i64 16)) v8 (Go.Value.int Go.IntKind.i64 16)) K w) (fun v9 w =>
  PickP v5 v9 (Go.Value.bool false) (fun v10 w =>
  R v10 w) w) w) w) w) w) w
theorem S33.calls (a0 : Value) (R : Value → World → Prop) (w : World) (h : S33 a0 R w) : Calls Tryz.prog 33 #[a0] w fun e w' => ∃ v, e = .returned v ∧ R v w' :=
  calls_of_tr (n := 11) (c := bodyOf Tryz.f33) (.two .leaf (.two .leaf .leaf)) Tryz.func33 (by kernel_rfl) Tryz.ntmps33 (by kernel_rfl) (by kernel_rfl) [a0] (by kernel_rfl) (of_eq_ (by kernel_rfl) h)

/-- shelfmark/record.CheckIndex -/
def S39 (a0 : Value) (R : Value → World → Prop) (w : World) : Prop :=
  LiftP Tryz.prog (Instr.box 53 a0) (fun v1 w =>
  DrawP (fun S w =>
  YieldP Tryz.prog S (Instr.fieldAt 53 v1 0) (fun v7 w =>
  YieldP Tryz.prog S (Instr.loadAt 3 v7) (fun v8 w =>
  YieldP Tryz.prog S (Instr.fieldAt 53 v1 1) (fun v18 w =>
  YieldP Tryz.prog S (Instr.loadAt 24 v18) (fun v19 w =>
  YieldN Tryz.prog S (builtin Go.Builtin.len #[24] 3 #[false] #[v19]) (fun v20 w =>
  YieldP Tryz.prog S (binS Go.BinOp.gtr 3 (Go.Operand.tmp 20) (Go.Operand.const (Go.Value.int Go.IntKind.i64 2)) v20 (Go.Value.int Go.IntKind.i64 2)) (fun v21 w =>
  ActP S (fun K w => CallP Tryz.prog 67 #[v8] K w) (fun S v9 w =>
  YieldP Tryz.prog S (Op.unary Go.UnOp.not v9) (fun v10 w =>
  GuardP v10 false (fun K w => YieldP Tryz.prog S (Instr.fieldAt 53 v1 1) K w) (fun v12 w =>
  GuardP v10 false (fun K w => YieldP Tryz.prog S (Instr.loadAt 24 v12) K w) (fun v13 w =>
  GuardP v10 false (fun K w => YieldN Tryz.prog S (builtin Go.Builtin.len #[24] 3 #[false] #[v13]) K w) (fun v14 w =>
  GuardP v10 false (fun K w => YieldP Tryz.prog S (binS Go.BinOp.eql 3 (Go.Operand.tmp 14) (Go.Operand.const (Go.Value.int Go.IntKind.i64 0)) v14 (Go.Value.int Go.IntKind.i64 0)) K w) (fun v15 w =>
  PickP v10 (Go.Value.bool true) v15 (fun v16 w =>
  ActP S (fun K w => CallP Tryz.prog 66 #[v16, (Go.Value.int Go.IntKind.i64 1)] K w) (fun S v17 w =>
  ActP S (fun K w => CallP Tryz.prog 66 #[v21, (Go.Value.int Go.IntKind.i64 4)] K w) (fun S v22 w =>
  ActP S (fun K w => LiftP Tryz.prog (Instr.buildSlice 126 2 #[(0, v17), (1, v22)]) K w) (fun S v23 w =>
  ActP S (fun K w => CallP Tryz.prog 65 #[v23] K w) (fun S v24 w =>
  LiftP Tryz.prog (binS Go.BinOp.neq 29 (Go.Operand.tmp 25) (Go.Operand.const (Go.Value.int Go.IntKind.i64 0)) v24 (Go.Value.int Go.IntKind.i64 0)) (fun v26 w =>
  CondP v26 (fun w =>
    R v24 w) (fun w =>
    LiftP Tryz.prog (Instr.alloc 111 true (.tuple #[])) (fun v4 w =>
  LiftP Tryz.prog (Instr.fieldAt 53 v1 1) (fun v28 w =>
  LiftP Tryz.prog (Instr.loadAt 24 v28) (fun v29 w =>
  NextP Tryz.prog (builtin Go.Builtin.len #[24] 3 #[false] #[v29]) (fun v30 w =>
  LoopP (fun J vs w =>   -- [31]
    LiftP Tryz.prog (binS Go.BinOp.lss 3 (Go.Operand.tmp 31) (Go.Operand.tmp 30) (vs.headD undef) v30) (fun v32 w =>
    CondP v32 (fun w =>
      LiftP Tryz.prog (Instr.indexAt 24 v29 (vs.headD undef)) (fun v33 w =>
    LiftP Tryz.prog (Instr.loadAt 3 v33) (fun v34 w =>
    LiftP Tryz.prog (binS Go.BinOp.lss 3 (Go.Operand.tmp 35) (Go.Operand.const (Go.Value.int Go.IntKind.i64 0)) v34 (Go.Value.int Go.IntKind.i64 0)) (fun v36 w =>
    GuardP v36 false (fun K w => K v34 w) (fun v38 w =>
    GuardP v36 false (fun K w => LiftP Tryz.prog (binS Go.BinOp.geq 3 (Go.Operand.tmp 38) (Go.Operand.const (Go.Value.int Go.IntKind.i64 4)) v38 (Go.Value.int Go.IntKind.i64 4)) K w) (fun v39 w =>
    PickP v36 (Go.Value.bool true) v39 (fun v40 w =>
    GuardP v40 false (fun K w => K v34 w) (fun v42 w =>
    GuardP v40 false (fun K w => LiftP Tryz.prog (Instr.indexAt 111 v4 v42) K w) (fun v43 w =>
    GuardP v40 false (fun K w => LiftP Tryz.prog (Instr.loadAt 4 v43) K w) (fun v44 w =>
    PickP v40 (Go.Value.bool true) v44 (fun v45 w =>
    CondP v45 (fun w =>
      R (Go.Value.int Go.IntKind.i64 1) w) (fun w =>
      LiftP Tryz.prog (Instr.indexAt 111 v4 v34) (fun v47 w =>
    LiftU Tryz.prog (Instr.storeAt 4 v47 (Go.Value.bool true)) (fun v_ w =>
    LiftP Tryz.prog (binS Go.BinOp.add 3 (Go.Operand.tmp 31) (Go.Operand.const (Go.Value.int Go.IntKind.i64 1)) (vs.headD undef) (Go.Value.int Go.IntKind.i64 1)) (fun v48 w =>
    J [v48] w) w) w) w) w) w) w) w) w) w) w) w) w) w) w) (fun w =>
      R (Go.Value.int Go.IntKind.i64 0) w) w) w) [(Go.Value.int Go.IntKind.i64 0)] w) w) w) w) w) w) w) w) w) w) w) w) w) w) w) w) w) w) w) w) w) w) w) w) w) w
theorem S39.calls (a0 : Value) (R : Value → World → Prop) (w : World) (h : S39 a0 R w) : Calls Tryz.prog 39 #[a0] w fun e w' => ∃ v, e = .returned v ∧ R v w' :=
  calls_of_tr (n := 49) (c := bodyOf Tryz.f39) (.two .leaf (.two (.draw [(true, 0), (true, 1), (true, 11), (true, 12), (true, 13), (true, 14), (false, 2), (true, 3), (true, 4), (true, 5), (true, 6), (true, 7), (true, 8), (true, 9), (false, 10), (false, 15), (false, 16), (false, 17), (true, 18)]) (.two (.two .leaf (.two (.two .leaf .leaf) .leaf)) (.two .leaf (.two (.two .leaf (.one (.loop [31] (.two .leaf (.two (.two .leaf .leaf) (.two (.one (.two .leaf (.two (.two .leaf (.two (.two .leaf .leaf) .leaf)) .leaf))) .leaf)))))) (.two .leaf .leaf)))))) Tryz.func39 (by kernel_rfl) Tryz.ntmps39 (by kernel_rfl) (by kernel_rfl) [a0] (by kernel_rfl) (of_eq_ (by kernel_rfl) h)

/-- slices.Clone[shelfmark/api.Record,shelfmark/api.Val] -/
def S45 (a0 : Value) (R : Value → World → Prop) (w : World) : Prop :=
  LiftP Tryz.prog (binS Go.BinOp.eql 23 (Go.Operand.tmp 3) (Go.Operand.const (Go.Value.slice none 0 0)) a0 (Go.Value.slice none 0 0)) (fun v4 w =>
  CondP v4 (fun w =>
    R (Go.Value.slice none 0 0) w) (fun w =>
    LiftP Tryz.prog (Instr.buildSlice 23 0 #[]) (fun v5 w =>
  NextP Tryz.prog (builtin Go.Builtin.append #[23, 23] 23 #[false, false] #[v5, a0]) (fun v7 w =>
  R v7 w) w) w) w) w
theorem S45.calls (a0 : Value) (R : Value → World → Prop) (w : World) (h : S45 a0 R w) : Calls Tryz.prog 45 #[a0] w fun e w' => ∃ v, e = .returned v ∧ R v w' :=
  calls_of_tr (n := 8) (c := bodyOf Tryz.f45) (.two .leaf (.two (.two .leaf (.two (.two .leaf .leaf) .leaf)) (.two .leaf .leaf))) Tryz.func45 (by kernel_rfl) Tryz.ntmps45 (by kernel_rfl) (by kernel_rfl) [a0] (by kernel_rfl) (of_eq_ (by kernel_rfl) h)

/-- slices.Equal[shelfmark/api.Record,shelfmark/api.Val] -/
def S46 (a0 a1 : Value) (R : Value → World → Prop) (w : World) : Prop :=
  NextP Tryz.prog (builtin Go.Builtin.len #[23] 3 #[false] #[a0]) (fun v7 w =>
  NextP Tryz.prog (builtin Go.Builtin.len #[23] 3 #[false] #[a1]) (fun v9 w =>
  LiftP Tryz.prog (binS Go.BinOp.neq 3 (Go.Operand.tmp 7) (Go.Operand.tmp 9) v7 v9) (fun v10 w =>
  CondP v10 (fun w =>
    R (Go.Value.bool false) w) (fun w =>
    NextP Tryz.prog (builtin Go.Builtin.len #[23] 3 #[false] #[a0]) (fun v12 w =>
  LoopP (fun J vs w =>   -- [13]
    LiftP Tryz.prog (binS Go.BinOp.lss 3 (Go.Operand.tmp 13) (Go.Operand.tmp 12) (vs.headD undef) v12) (fun v14 w =>
    CondP v14 (fun w =>
      DrawP (fun S w =>
    YieldP Tryz.prog S (Instr.indexAt 23 a0 (vs.headD undef)) (fun v18 w =>
    YieldP Tryz.prog S (Instr.loadAt 67 v18) (fun v19 w =>
    YieldP Tryz.prog S (Instr.indexAt 23 a1 (vs.headD undef)) (fun v22 w =>
    YieldP Tryz.prog S (Instr.loadAt 67 v22) (fun v23 w =>
    YieldP Tryz.prog S (binS Go.BinOp.neq 67 (Go.Operand.tmp 19) (Go.Operand.tmp 23) v19 v23) (fun v24 w =>
    CondP v24 (fun w =>
      R (Go.Value.bool false) w) (fun w =>
      LiftP Tryz.prog (binS Go.BinOp.add 3 (Go.Operand.tmp 13) (Go.Operand.const (Go.Value.int Go.IntKind.i64 1)) (vs.headD undef) (Go.Value.int Go.IntKind.i64 1)) (fun v25 w =>
    J [v25] w) w) w) w) w) w) w) w) w) (fun w =>
      R (Go.Value.bool true) w) w) w) [(Go.Value.int Go.IntKind.i64 0)] w) w) w) w) w) w
theorem S46.calls (a0 a1 : Value) (R : Value → World → Prop) (w : World) (h : S46 a0 a1 R w) : Calls Tryz.prog 46 #[a0, a1] w fun e w' => ∃ v, e = .returned v ∧ R v w' :=
  calls_of_tr (n := 26) (c := bodyOf Tryz.f46) (.two .leaf (.two (.two .leaf (.two (.two .leaf .leaf) .leaf)) (.two (.two .leaf (.one (.loop [13] (.two .leaf (.two (.two .leaf .leaf) (.two (.one (.two .leaf (.two (.draw [(true, 0), (true, 1), (true, 2), (true, 3), (true, 4), (true, 5), (true, 6), (true, 7), (true, 8)]) (.two (.two .leaf .leaf) .leaf)))) .leaf)))))) (.two .leaf .leaf)))) Tryz.func46 (by kernel_rfl) Tryz.ntmps46 (by kernel_rfl) (by kernel_rfl) [a0, a1] (by kernel_rfl) (of_eq_ (by kernel_rfl) h)

/-- slices.Clone[[]int,int] -/
def S50 (a0 : Value) (R : Value → World → Prop) (w : World) : Prop :=
  LiftP Tryz.prog (binS Go.BinOp.eql 24 (Go.Operand.tmp 3) (Go.Operand.const (Go.Value.slice none 0 0)) a0 (Go.Value.slice none 0 0)) (fun v4 w =>
  CondP v4 (fun w =>
    R (Go.Value.slice none 0 0) w) (fun w =>
    LiftP Tryz.prog (Instr.buildSlice 24 0 #[]) (fun v5 w =>
  NextP Tryz.prog (builtin Go.Builtin.append #[24, 24] 24 #[false, false] #[v5, a0]) (fun v7 w =>
  R v7 w) w) w) w) w
theorem S50.calls (a0 : Value) (R : Value → World → Prop) (w : World) (h : S50 a0 R w) : Calls Tryz.prog 50 #[a0] w fun e w' => ∃ v, e = .returned v ∧ R v w' :=
  calls_of_tr (n := 8) (c := bodyOf Tryz.f50) (.two .leaf (.two (.two .leaf (.two (.two .leaf .leaf) .leaf)) (.two .leaf .leaf))) Tryz.func50 (by kernel_rfl) Tryz.ntmps50 (by kernel_rfl) (by kernel_rfl) [a0] (by kernel_rfl) (of_eq_ (by kernel_rfl) h)

/-- shelfmark/record.Check -/
def S61 (a0 : Value) (R : Value → World → Prop) (w : World) : Prop :=
  NextP Tryz.prog (builtin Go.Builtin.len #[23] 3 #[false] #[a0]) (fun v4 w =>
  LiftP Tryz.prog (binS Go.BinOp.eql 3 (Go.Operand.tmp 4) (Go.Operand.const (Go.Value.int Go.IntKind.i64 0)) v4 (Go.Value.int Go.IntKind.i64 0)) (fun v5 w =>
  CallP Tryz.prog 66 #[v5, (Go.Value.int Go.IntKind.i64 1)] (fun v6 w =>
  NextP Tryz.prog (builtin Go.Builtin.len #[23] 3 #[false] #[a0]) (fun v8 w =>
  LiftP Tryz.prog (binS Go.BinOp.gtr 3 (Go.Operand.tmp 8) (Go.Operand.const (Go.Value.int Go.IntKind.i64 4)) v8 (Go.Value.int Go.IntKind.i64 4)) (fun v9 w =>
  CallP Tryz.prog 66 #[v9, (Go.Value.int Go.IntKind.i64 4)] (fun v10 w =>
  CallP Tryz.prog 83 #[a0, (.func (.func 84) #[] #[])] (fun v12 w =>
  CallP Tryz.prog 66 #[v12, (Go.Value.int Go.IntKind.i64 1)] (fun v13 w =>
  LiftP Tryz.prog (Instr.buildSlice 126 3 #[(0, v6), (1, v10), (2, v13)]) (fun v14 w =>
  CallP Tryz.prog 65 #[v14] (fun v15 w =>
  R v15 w) w) w) w) w) w) w) w) w) w) w
theorem S61.calls (a0 : Value) (R : Value → World → Prop) (w : World) (h : S61 a0 R w) : Calls Tryz.prog 61 #[a0] w fun e w' => ∃ v, e = .returned v ∧ R v w' :=
  calls_of_tr (n := 16) (c := bodyOf Tryz.f61) (.two .leaf (.two .leaf .leaf)) Tryz.func61 (by kernel_rfl) Tryz.ntmps61 (by kernel_rfl) (by kernel_rfl) [a0] (by kernel_rfl) (of_eq_ (by kernel_rfl) h)

/-- shelfmark/tuple.Key -/
def S64 (a0 : Value) (R : Value → World → Prop) (w : World) : Prop :=
  CallP Tryz.prog 85 #[a0] (fun v9 w =>
  LiftP Tryz.prog (binS Go.BinOp.neq 29 (Go.Operand.tmp 10) (Go.Operand.const (Go.Value.int Go.IntKind.i64 0)) v9 (Go.Value.int Go.IntKind.i64 0)) (fun v11 w =>
  CondP v11 (fun w =>
    R (.tuple #[(Go.Value.string { data := #[] }), v9]) w) (fun w =>
    NextP Tryz.prog (builtin Go.Builtin.len #[22] 3 #[false] #[a0]) (fun v14 w =>
  LoopP (fun J vs w =>   -- [5, 15]
    LiftP Tryz.prog (binS Go.BinOp.lss 3 (Go.Operand.tmp 15) (Go.Operand.tmp 14) (vs.tail.headD undef) v14) (fun v16 w =>
    CondP v16 (fun w =>
      LiftP Tryz.prog (Instr.indexAt 22 a0 (vs.tail.headD undef)) (fun v17 w =>
    LiftP Tryz.prog (Instr.loadAt 67 v17) (fun v18 w =>
    LiftP Tryz.prog (Instr.alloc 67 true (.tuple #[])) (fun v7 w =>
    LiftU Tryz.prog (Instr.storeAt 67 v7 v18) (fun v_ w =>
    LiftP Tryz.prog (Instr.loadAt 67 v7) (fun v20 w =>
    CallP Tryz.prog 86 #[v20] (fun v21 w =>
    NextP Tryz.prog (builtin Go.Builtin.append #[124, 124] 124 #[false, false] #[(vs.headD undef), v21]) (fun v22 w =>
    LiftP Tryz.prog (binS Go.BinOp.add 3 (Go.Operand.tmp 15) (Go.Operand.const (Go.Value.int Go.IntKind.i64 1)) (vs.tail.headD undef) (Go.Value.int Go.IntKind.i64 1)) (fun v23 w =>
    J [v22, v23] w) w) w) w) w) w) w) w) w) (fun w =>
      LiftP Tryz.prog (convert 124 9 (vs.headD undef)) (fun v25 w =>
  R (.tuple #[v25, (Go.Value.int Go.IntKind.i64 0)]) w) w) w) w) [(Go.Value.slice none 0 0), (Go.Value.int Go.IntKind.i64 0)] w) w) w) w) w
theorem S64.calls (a0 : Value) (R : Value → World → Prop) (w : World) (h : S64 a0 R w) : Calls Tryz.prog 64 #[a0] w fun e w' => ∃ v, e = .returned v ∧ R v w' :=
  calls_of_tr (n := 26) (c := bodyOf Tryz.f64) (.two .leaf (.two (.two .leaf (.two .leaf (.two (.two .leaf .leaf) .leaf))) (.two .leaf (.two (.two .leaf (.one (.loop [5, 15] (.two .leaf (.two (.two .leaf .leaf) (.two (.one (.two .leaf .leaf)) .leaf)))))) (.two .leaf .leaf))))) Tryz.func64 (by kernel_rfl) Tryz.ntmps64 (by kernel_rfl) (by kernel_rfl) [a0] (by kernel_rfl) (of_eq_ (by kernel_rfl) h)

/-- shelfmark/record.first -/
def S65 (a0 : Value) (R : Value → World → Prop) (w : World) : Prop :=
  NextP Tryz.prog (builtin Go.Builtin.len #[126] 3 #[false] #[a0]) (fun v6 w =>
  LoopP (fun J vs w =>   -- [7]
    LiftP Tryz.prog (binS Go.BinOp.lss 3 (Go.Operand.tmp 7) (Go.Operand.tmp 6) (vs.headD undef) v6) (fun v8 w =>
    CondP v8 (fun w =>
      LiftP Tryz.prog (Instr.indexAt 126 a0 (vs.headD undef)) (fun v9 w =>
    LiftP Tryz.prog (Instr.loadAt 29 v9) (fun v10 w =>
    LiftP Tryz.prog (binS Go.BinOp.neq 29 (Go.Operand.tmp 11) (Go.Operand.const (Go.Value.int Go.IntKind.i64 0)) v10 (Go.Value.int Go.IntKind.i64 0)) (fun v12 w =>
    CondP v12 (fun w =>
      R v10 w) (fun w =>
      LiftP Tryz.prog (binS Go.BinOp.add 3 (Go.Operand.tmp 7) (Go.Operand.const (Go.Value.int Go.IntKind.i64 1)) (vs.headD undef) (Go.Value.int Go.IntKind.i64 1)) (fun v14 w =>
    J [v14] w) w) w) w) w) w) (fun w =>
      R (Go.Value.int Go.IntKind.i64 0) w) w) w) [(Go.Value.int Go.IntKind.i64 0)] w) w
theorem S65.calls (a0 : Value) (R : Value → World → Prop) (w : World) (h : S65 a0 R w) : Calls Tryz.prog 65 #[a0] w fun e w' => ∃ v, e = .returned v ∧ R v w' :=
  calls_of_tr (n := 15) (c := bodyOf Tryz.f65) (.two .leaf (.two (.two .leaf (.one (.loop [7] (.two .leaf (.two (.two .leaf .leaf) (.two (.one (.two .leaf (.two .leaf (.two (.two .leaf .leaf) .leaf)))) .leaf)))))) (.two .leaf .leaf))) Tryz.func65 (by kernel_rfl) Tryz.ntmps65 (by kernel_rfl) (by kernel_rfl) [a0] (by kernel_rfl) (of_eq_ (by kernel_rfl) h)

/-- shelfmark/record.when -/
def S66 (a0 a1 : Value) (R : Value → World → Prop) (w : World) : Prop :=
  CondP a0 (fun w =>
    R a1 w) (fun w =>
    R (Go.Value.int Go.IntKind.i64 0) w) w
theorem S66.calls (a0 a1 : Value) (R : Value → World → Prop) (w : World) (h : S66 a0 a1 R w) : Calls Tryz.prog 66 #[a0, a1] w fun e w' => ∃ v, e = .returned v ∧ R v w' :=
  calls_of_tr (n := 7) (c := bodyOf Tryz.f66) (.two .leaf (.two (.two .leaf (.two (.two .leaf .leaf) .leaf)) (.two .leaf .leaf))) Tryz.func66 (by kernel_rfl) Tryz.ntmps66 (by kernel_rfl) (by kernel_rfl) [a0, a1] (by kernel_rfl) (of_eq_ (by kernel_rfl) h)

/-- shelfmark/record.number -/
def S67 (a0 : Value) (R : Value → World → Prop) (w : World) : Prop :=
  LiftP Tryz.prog (binS Go.BinOp.geq 3 (Go.Operand.tmp 3) (Go.Operand.const (Go.Value.int Go.IntKind.i64 1)) a0 (Go.Value.int Go.IntKind.i64 1)) (fun v4 w =>
  GuardP v4 true (fun K w => K a0 w) (fun v6 w =>
  GuardP v4 true (fun K w => LiftP Tryz.prog (binS Go.BinOp.leq 3 (Go.Operand.tmp 6) (Go.Operand.const (Go.Value.int Go.IntKind.i64 6)) v6 (Go.Value.int Go.IntKind.i64 6)) K w) (fun v7 w =>
  PickP v4 v7 (Go.Value.bool false) (fun v8 w =>
  R v8 w) w) w) w) w
theorem S67.calls (a0 : Value) (R : Value → World → Prop) (w : World) (h : S67 a0 R w) : Calls Tryz.prog 67 #[a0] w fun e w' => ∃ v, e = .returned v ∧ R v w' :=
  calls_of_tr (n := 9) (c := bodyOf Tryz.f67) (.two .leaf (.two .leaf .leaf)) Tryz.func67 (by kernel_rfl) Tryz.ntmps67 (by kernel_rfl) (by kernel_rfl) [a0] (by kernel_rfl) (of_eq_ (by kernel_rfl) h)

/-- shelfmark/record.Shows -/
def S77 (a0 a1 : Value) (R : Value → World → Prop) (w : World) : Prop :=
  LiftP Tryz.prog (Instr.box 53 a0) (fun v2 w =>
  LiftP Tryz.prog (Instr.loadAt 53 v2) (fun v9 w =>
  CallP Tryz.prog 39 #[v9] (fun v10 w =>
  CallP Tryz.prog 61 #[a1] (fun v12 w =>
  LiftP Tryz.prog (Instr.buildSlice 126 2 #[(0, v10), (1, v12)]) (fun v13 w =>
  CallP Tryz.prog 65 #[v13] (fun v14 w =>
  LiftP Tryz.prog (binS Go.BinOp.neq 29 (Go.Operand.tmp 14) (Go.Operand.const (Go.Value.int Go.IntKind.i64 0)) v14 (Go.Value.int Go.IntKind.i64 0)) (fun v15 w =>
  CondP v15 (fun w =>
    R (.tuple #[(Go.Value.slice none 0 0), (Go.Value.bool false)]) w) (fun w =>
    LiftP Tryz.prog (Instr.fieldAt 53 v2 1) (fun v16 w =>
  LiftP Tryz.prog (Instr.loadAt 24 v16) (fun v17 w =>
  NextP Tryz.prog (builtin Go.Builtin.len #[24] 3 #[false] #[v17]) (fun v18 w =>
  LoopP (fun J vs w =>   -- [6, 19]
    LiftP Tryz.prog (binS Go.BinOp.lss 3 (Go.Operand.tmp 19) (Go.Operand.tmp 18) (vs.tail.headD undef) v18) (fun v20 w =>
    CondP v20 (fun w =>
      LiftP Tryz.prog (Instr.indexAt 24 v17 (vs.tail.headD undef)) (fun v21 w =>
    LiftP Tryz.prog (Instr.loadAt 3 v21) (fun v22 w =>
    NextP Tryz.prog (builtin Go.Builtin.len #[23] 3 #[false] #[a1]) (fun v25 w =>
    LiftP Tryz.prog (binS Go.BinOp.geq 3 (Go.Operand.tmp 23) (Go.Operand.tmp 25) v22 v25) (fun v26 w =>
    GuardP v26 false (fun K w => K a1 w) (fun v28 w =>
    GuardP v26 false (fun K w => K v22 w) (fun v29 w =>
    GuardP v26 false (fun K w => LiftP Tryz.prog (Instr.indexAt 23 v28 v29) K w) (fun v30 w =>
    GuardP v26 false (fun K w => LiftP Tryz.prog (Instr.fieldAt 67 v30 0) K w) (fun v31 w =>
    GuardP v26 false (fun K w => LiftP Tryz.prog (Instr.loadAt 3 v31) K w) (fun v32 w =>
    GuardP v26 false (fun K w => LiftP Tryz.prog (binS Go.BinOp.eql 3 (Go.Operand.tmp 32) (Go.Operand.const (Go.Value.int Go.IntKind.i64 0)) v32 (Go.Value.int Go.IntKind.i64 0)) K w) (fun v33 w =>
    PickP v26 (Go.Value.bool true) v33 (fun v34 w =>
    CondP v34 (fun w =>
      R (.tuple #[(Go.Value.slice none 0 0), (Go.Value.bool false)]) w) (fun w =>
      LiftP Tryz.prog (Instr.indexAt 23 a1 v22) (fun v38 w =>
    LiftP Tryz.prog (Instr.loadAt 67 v38) (fun v39 w =>
    LiftP Tryz.prog (Instr.buildSlice 22 1 #[(0, v39)]) (fun v40 w =>
    NextP Tryz.prog (builtin Go.Builtin.append #[22, 22] 22 #[false, false] #[(vs.headD undef), v40]) (fun v41 w =>
    LiftP Tryz.prog (binS Go.BinOp.add 3 (Go.Operand.tmp 19) (Go.Operand.const (Go.Value.int Go.IntKind.i64 1)) (vs.tail.headD undef) (Go.Value.int Go.IntKind.i64 1)) (fun v42 w =>
    J [v41, v42] w) w) w) w) w) w) w) w) w) w) w) w) w) w) w) w) w) w) (fun w =>
      R (.tuple #[(vs.headD undef), (Go.Value.bool true)]) w) w) w) [(Go.Value.slice none 0 0), (Go.Value.int Go.IntKind.i64 0)] w) w) w) w) w) w) w) w) w) w) w) w
theorem S77.calls (a0 a1 : Value) (R : Value → World → Prop) (w : World) (h : S77 a0 a1 R w) : Calls Tryz.prog 77 #[a0, a1] w fun e w' => ∃ v, e = .returned v ∧ R v w' :=
  calls_of_tr (n := 44) (c := bodyOf Tryz.f77) (.two .leaf (.two (.two .leaf (.two (.two .leaf .leaf) .leaf)) (.two .leaf (.two (.two .leaf (.one (.loop [6, 19] (.two .leaf (.two (.two .leaf .leaf) (.two (.one (.two .leaf (.two (.two .leaf (.two (.two .leaf .leaf) .leaf)) .leaf))) .leaf)))))) (.two .leaf .leaf))))) Tryz.func77 (by kernel_rfl) Tryz.ntmps77 (by kernel_rfl) (by kernel_rfl) [a0, a1] (by kernel_rfl) (of_eq_ (by kernel_rfl) h)

/-- shelfmark/record.Lies -/
def S78 (a0 a1 a2 : Value) (R : Value → World → Prop) (w : World) : Prop :=
  LiftP Tryz.prog (Instr.buildSlice 133 3 #[(0, a0), (1, a1), (2, a2)]) (fun v14 w =>
  NextP Tryz.prog (builtin Go.Builtin.len #[133] 3 #[false] #[v14]) (fun v15 w =>
  LoopP (fun J vs w =>   -- [16]
    LiftP Tryz.prog (binS Go.BinOp.lss 3 (Go.Operand.tmp 16) (Go.Operand.tmp 15) (vs.headD undef) v15) (fun v17 w =>
    CondP v17 (fun w =>
      LiftP Tryz.prog (Instr.indexAt 133 v14 (vs.headD undef)) (fun v18 w =>
    LiftP Tryz.prog (Instr.loadAt 22 v18) (fun v19 w =>
    CallP Tryz.prog 64 #[v19] (fun v22 w =>
    LiftP Tryz.prog (Instr.extract v22 0) (fun v23 w =>
    LiftP Tryz.prog (Instr.extract v22 1) (fun v24 w =>
    LiftP Tryz.prog (binS Go.BinOp.neq 29 (Go.Operand.tmp 25) (Go.Operand.const (Go.Value.int Go.IntKind.i64 0)) v24 (Go.Value.int Go.IntKind.i64 0)) (fun v26 w =>
    CondP v26 (fun w =>
      R (Go.Value.bool false) w) (fun w =>
      LiftP Tryz.prog (binS Go.BinOp.add 3 (Go.Operand.tmp 16) (Go.Operand.const (Go.Value.int Go.IntKind.i64 1)) (vs.headD undef) (Go.Value.int Go.IntKind.i64 1)) (fun v27 w =>
    J [v27] w) w) w) w) w) w) w) w) w) (fun w =>
      CallP Tryz.prog 93 #[a0, a1] (fun v30 w =>
  LiftP Tryz.prog (binS Go.BinOp.geq 3 (Go.Operand.tmp 30) (Go.Operand.const (Go.Value.int Go.IntKind.i64 0)) v30 (Go.Value.int Go.IntKind.i64 0)) (fun v31 w =>
  GuardP v31 true (fun K w => K a0 w) (fun v33 w =>
  GuardP v31 true (fun K w => K a0 w) (fun v34 w =>
  GuardP v31 true (fun K w => NextP Tryz.prog (builtin Go.Builtin.len #[22] 3 #[false] #[v34]) K w) (fun v35 w =>
  GuardP v31 true (fun K w => K a2 w) (fun v36 w =>
  GuardP v31 true (fun K w => NextP Tryz.prog (builtin Go.Builtin.len #[22] 3 #[false] #[v36]) K w) (fun v37 w =>
  GuardP v31 true (fun K w => NextP Tryz.prog (builtin Go.Builtin.min #[3, 3] 3 #[false, false] #[v35, v37]) K w) (fun v38 w =>
  GuardP v31 true (fun K w => LiftP Tryz.prog (Instr.sliceAt 22 v33 none (some v38) none) K w) (fun v39 w =>
  GuardP v31 true (fun K w => K a2 w) (fun v40 w =>
  GuardP v31 true (fun K w => CallP Tryz.prog 93 #[v39, v40] K w) (fun v41 w =>
  GuardP v31 true (fun K w => LiftP Tryz.prog (binS Go.BinOp.leq 3 (Go.Operand.tmp 41) (Go.Operand.const (Go.Value.int Go.IntKind.i64 0)) v41 (Go.Value.int Go.IntKind.i64 0)) K w) (fun v42 w =>
  PickP v31 v42 (Go.Value.bool false) (fun v43 w =>
  R v43 w) w) w) w) w) w) w) w) w) w) w) w) w) w) w) w) [(Go.Value.int Go.IntKind.i64 0)] w) w) w
theorem S78.calls (a0 a1 a2 : Value) (R : Value → World → Prop) (w : World) (h : S78 a0 a1 a2 R w) : Calls Tryz.prog 78 #[a0, a1, a2] w fun e w' => ∃ v, e = .returned v ∧ R v w' :=
  calls_of_tr (n := 44) (c := bodyOf Tryz.f78) (.two .leaf (.two (.two .leaf (.one (.loop [16] (.two .leaf (.two (.two .leaf .leaf) (.two (.one (.two .leaf (.two .leaf (.two .leaf (.two (.two .leaf .leaf) .leaf))))) .leaf)))))) (.two .leaf .leaf))) Tryz.func78 (by kernel_rfl) Tryz.ntmps78 (by kernel_rfl) (by kernel_rfl) [a0, a1, a2] (by kernel_rfl) (of_eq_ (by kernel_rfl) h)

/-- shelfmark/record.Entry -/
def S79 (a0 a1 a2 : Value) (R : Value → World → Prop) (w : World) : Prop :=
  CallP Tryz.prog 67 #[a0] (fun v12 w =>
  LiftP Tryz.prog (Op.unary Go.UnOp.not v12) (fun v13 w =>
  GuardP v13 false (fun K w => K a1 w) (fun v15 w =>
  GuardP v13 false (fun K w => NextP Tryz.prog (builtin Go.Builtin.len #[22] 3 #[false] #[v15]) K w) (fun v16 w =>
  GuardP v13 false (fun K w => LiftP Tryz.prog (binS Go.BinOp.eql 3 (Go.Operand.tmp 16) (Go.Operand.const (Go.Value.int Go.IntKind.i64 0)) v16 (Go.Value.int Go.IntKind.i64 0)) K w) (fun v17 w =>
  PickP v13 (Go.Value.bool true) v17 (fun v18 w =>
  CallP Tryz.prog 66 #[v18, (Go.Value.int Go.IntKind.i64 1)] (fun v19 w =>
  NextP Tryz.prog (builtin Go.Builtin.len #[22] 3 #[false] #[a1]) (fun v21 w =>
  LiftP Tryz.prog (binS Go.BinOp.gtr 3 (Go.Operand.tmp 21) (Go.Operand.const (Go.Value.int Go.IntKind.i64 2)) v21 (Go.Value.int Go.IntKind.i64 2)) (fun v22 w =>
  CallP Tryz.prog 66 #[v22, (Go.Value.int Go.IntKind.i64 4)] (fun v23 w =>
  CallP Tryz.prog 94 #[a1, (.func (.func 84) #[] #[])] (fun v25 w =>
  GuardP v25 false (fun K w => K a1 w) (fun v27 w =>
  GuardP v25 false (fun K w => CallP Tryz.prog 94 #[v27, (.func (.func 95) #[] #[])] K w) (fun v28 w =>
  PickP v25 (Go.Value.bool true) v28 (fun v29 w =>
  GuardP v29 false (fun K w => K a2 w) (fun v31 w =>
  GuardP v29 false (fun K w => CallP Tryz.prog 33 #[v31] K w) (fun v32 w =>
  GuardP v29 false (fun K w => LiftP Tryz.prog (Op.unary Go.UnOp.not v32) K w) (fun v33 w =>
  PickP v29 (Go.Value.bool true) v33 (fun v34 w =>
  CallP Tryz.prog 66 #[v34, (Go.Value.int Go.IntKind.i64 1)] (fun v35 w =>
  LiftP Tryz.prog (Instr.buildSlice 126 3 #[(0, v19), (1, v23), (2, v35)]) (fun v36 w =>
  CallP Tryz.prog 65 #[v36] (fun v37 w =>
  LiftP Tryz.prog (binS Go.BinOp.neq 29 (Go.Operand.tmp 38) (Go.Operand.const (Go.Value.int Go.IntKind.i64 0)) v37 (Go.Value.int Go.IntKind.i64 0)) (fun v39 w =>
  CondP v39 (fun w =>
    R (.tuple #[(Go.Value.string { data := #[] }), v37]) w) (fun w =>
    CallP Tryz.prog 64 #[a1] (fun v43 w =>
  LiftP Tryz.prog (Instr.extract v43 0) (fun v44 w =>
  LiftP Tryz.prog (Instr.extract v43 1) (fun v45 w =>
  CallP Tryz.prog 96 #[a0] (fun v47 w =>
  LiftP Tryz.prog (binS Go.BinOp.add 9 (Go.Operand.tmp 47) (Go.Operand.tmp 48) v47 v44) (fun v49 w =>
  LiftP Tryz.prog (binS Go.BinOp.add 9 (Go.Operand.tmp 49) (Go.Operand.const (Go.Value.string { data := #[0] })) v49 (Go.Value.string { data := #[0] })) (fun v50 w =>
  LiftP Tryz.prog (binS Go.BinOp.add 9 (Go.Operand.tmp 50) (Go.Operand.tmp 51) v50 a2) (fun v52 w =>
  R (.tuple #[v52, (Go.Value.int Go.IntKind.i64 0)]) w) w) w) w) w) w) w) w) w) w) w) w) w) w) w) w) w) w) w) w) w) w) w) w) w) w) w) w) w) w) w
theorem S79.calls (a0 a1 a2 : Value) (R : Value → World → Prop) (w : World) (h : S79 a0 a1 a2 R w) : Calls Tryz.prog 79 #[a0, a1, a2] w fun e w' => ∃ v, e = .returned v ∧ R v w' :=
  calls_of_tr (n := 53) (c := bodyOf Tryz.f79) (.two .leaf (.two .leaf (.two (.two .leaf (.two (.two .leaf .leaf) .leaf)) (.two .leaf (.two .leaf .leaf))))) Tryz.func79 (by kernel_rfl) Tryz.ntmps79 (by kernel_rfl) (by kernel_rfl) [a0, a1, a2] (by kernel_rfl) (of_eq_ (by kernel_rfl) h)

/-- cmp.Compare[string] -/
def S82 (a0 a1 : Value) (R : Value → World → Prop) (w : World) : Prop :=
  CallP Tryz.prog 98 #[a0] (fun v8 w =>
  CallP Tryz.prog 98 #[a1] (fun v10 w =>
  CondP v8 (fun w =>
    CondP v10 (fun w =>
      R (Go.Value.int Go.IntKind.i64 0) w) (fun w =>
      R (Go.Value.int Go.IntKind.i64 (-1)) w) w) (fun w =>
    CondP v10 (fun w =>
    R (Go.Value.int Go.IntKind.i64 1) w) (fun w =>
    LiftP Tryz.prog (binS Go.BinOp.lss 9 (Go.Operand.tmp 14) (Go.Operand.tmp 15) a0 a1) (fun v16 w =>
  CondP v16 (fun w =>
    R (Go.Value.int Go.IntKind.i64 (-1)) w) (fun w =>
    LiftP Tryz.prog (binS Go.BinOp.gtr 9 (Go.Operand.tmp 17) (Go.Operand.tmp 18) a0 a1) (fun v19 w =>
  CondP v19 (fun w =>
    R (Go.Value.int Go.IntKind.i64 1) w) (fun w =>
    R (Go.Value.int Go.IntKind.i64 0) w) w) w) w) w) w) w) w) w
theorem S82.calls (a0 a1 : Value) (R : Value → World → Prop) (w : World) (h : S82 a0 a1 R w) : Calls Tryz.prog 82 #[a0, a1] w fun e w' => ∃ v, e = .returned v ∧ R v w' :=
  calls_of_tr (n := 20) (c := bodyOf Tryz.f82) (.two .leaf (.two .leaf (.two .leaf (.two (.two .leaf (.two (.two (.two .leaf (.two (.two .leaf .leaf) .leaf)) (.two .leaf .leaf)) .leaf)) (.two (.two .leaf (.two (.two .leaf .leaf) .leaf)) (.two (.two .leaf (.two (.two .leaf .leaf) .leaf)) (.two (.two .leaf (.two (.two .leaf .leaf) .leaf)) (.two .leaf .leaf)))))))) Tryz.func82 (by kernel_rfl) Tryz.ntmps82 (by kernel_rfl) (by kernel_rfl) [a0, a1] (by kernel_rfl) (of_eq_ (by kernel_rfl) h)

/-- slices.ContainsFunc[shelfmark/api.Record,shelfmark/api.Val] -/
def S83 (a0 a1 : Value) (R : Value → World → Prop) (w : World) : Prop :=
  CallP Tryz.prog 99 #[a0, a1] (fun v7 w =>
  LiftP Tryz.prog (binS Go.BinOp.geq 3 (Go.Operand.tmp 7) (Go.Operand.const (Go.Value.int Go.IntKind.i64 0)) v7 (Go.Value.int Go.IntKind.i64 0)) (fun v8 w =>
  R v8 w) w) w
theorem S83.calls (a0 a1 : Value) (R : Value → World → Prop) (w : World) (h : S83 a0 a1 R w) : Calls Tryz.prog 83 #[a0, a1] w fun e w' => ∃ v, e = .returned v ∧ R v w' :=
  calls_of_tr (n := 9) (c := bodyOf Tryz.f83) (.two .leaf (.two .leaf .leaf)) Tryz.func83 (by kernel_rfl) Tryz.ntmps83 (by kernel_rfl) (by kernel_rfl) [a0, a1] (by kernel_rfl) (of_eq_ (by kernel_rfl) h)

/-- shelfmark/record.bad -/
def S84 (a0 : Value) (R : Value → World → Prop) (w : World) : Prop :=
  LiftP Tryz.prog (Instr.box 67 a0) (fun v1 w =>
  LiftP Tryz.prog (Instr.loadAt 67 v1) (fun v3 w =>
  CallP Tryz.prog 100 #[v3] (fun v4 w =>
  LiftP Tryz.prog (Op.unary Go.UnOp.not v4) (fun v5 w =>
  R v5 w) w) w) w) w
theorem S84.calls (a0 : Value) (R : Value → World → Prop) (w : World) (h : S84 a0 R w) : Calls Tryz.prog 84 #[a0] w fun e w' => ∃ v, e = .returned v ∧ R v w' :=
  calls_of_tr (n := 6) (c := bodyOf Tryz.f84) (.two .leaf (.two .leaf .leaf)) Tryz.func84 (by kernel_rfl) Tryz.ntmps84 (by kernel_rfl) (by kernel_rfl) [a0] (by kernel_rfl) (of_eq_ (by kernel_rfl) h)

/-- shelfmark/tuple.row -/
def S85 (a0 : Value) (R : Value → World → Prop) (w : World) : Prop :=
  NextP Tryz.prog (builtin Go.Builtin.len #[22] 3 #[false] #[a0]) (fun v5 w =>
  LiftP Tryz.prog (binS Go.BinOp.gtr 3 (Go.Operand.tmp 5) (Go.Operand.const (Go.Value.int Go.IntKind.i64 4)) v5 (Go.Value.int Go.IntKind.i64 4)) (fun v6 w =>
  CondP v6 (fun w =>
    R (Go.Value.int Go.IntKind.i64 4) w) (fun w =>
    CallP Tryz.prog 94 #[a0, (.func (.func 101) #[] #[])] (fun v9 w =>
    CondP v9 (fun w =>
      R (Go.Value.int Go.IntKind.i64 1) w) (fun w =>
      R (Go.Value.int Go.IntKind.i64 0) w) w) w) w) w) w
theorem S85.calls (a0 : Value) (R : Value → World → Prop) (w : World) (h : S85 a0 R w) : Calls Tryz.prog 85 #[a0] w fun e w' => ∃ v, e = .returned v ∧ R v w' :=
  calls_of_tr (n := 10) (c := bodyOf Tryz.f85) (.two .leaf (.two (.one (.two .leaf (.two (.two .leaf .leaf) (.two .leaf (.two (.two .leaf .leaf) .leaf))))) (.two .leaf .leaf))) Tryz.func85 (by kernel_rfl) Tryz.ntmps85 (by kernel_rfl) (by kernel_rfl) [a0] (by kernel_rfl) (of_eq_ (by kernel_rfl) h)

/-- shelfmark/tuple.form -/
def S86 (a0 : Value) (R : Value → World → Prop) (w : World) : Prop :=
  LiftP Tryz.prog (Instr.box 67 a0) (fun v1 w =>
  LiftP Tryz.prog (Instr.fieldAt 67 v1 0) (fun v6 w =>
  LiftP Tryz.prog (Instr.loadAt 3 v6) (fun v7 w =>
  LiftP Tryz.prog (binS Go.BinOp.add 3 (Go.Operand.tmp 7) (Go.Operand.const (Go.Value.int Go.IntKind.i64 1)) v7 (Go.Value.int Go.IntKind.i64 1)) (fun v8 w =>
  LiftP Tryz.prog (convert 3 5 v8) (fun v9 w =>
  LiftP Tryz.prog (Instr.buildSlice 124 1 #[(0, v9)]) (fun v10 w =>
  JoinP (fun J w =>
    LiftP Tryz.prog (Instr.fieldAt 67 v1 0) (fun v11 w =>
    LiftP Tryz.prog (Instr.loadAt 3 v11) (fun v12 w =>
    LiftP Tryz.prog (binS Go.BinOp.eql 3 (Go.Operand.tmp 12) (Go.Operand.const (Go.Value.int Go.IntKind.i64 1)) v12 (Go.Value.int Go.IntKind.i64 1)) (fun v14 w =>
    CondP v14 (fun w =>
      LiftP Tryz.prog (Instr.fieldAt 67 v1 1) (fun v15 w =>
      LiftP Tryz.prog (Instr.loadAt 3 v15) (fun v16 w =>
      LiftP Tryz.prog (convert 3 138 v16) (fun v17 w =>
      LiftP Tryz.prog (binS Go.BinOp.xor 138 (Go.Operand.tmp 17) (Go.Operand.const (Go.Value.int Go.IntKind.u64 9223372036854775808)) v17 (Go.Value.int Go.IntKind.u64 9223372036854775808)) (fun v18 w =>
      LoopP (fun J_1 vs_1 w =>   -- [3, 5]
        LiftP Tryz.prog (binS Go.BinOp.geq 3 (Go.Operand.tmp 19) (Go.Operand.const (Go.Value.int Go.IntKind.i64 0)) (vs_1.tail.headD undef) (Go.Value.int Go.IntKind.i64 0)) (fun v20 w =>
        CondP v20 (fun w =>
          LiftP Tryz.prog (binS Go.BinOp.shr 138 (Go.Operand.tmp 24) (Go.Operand.tmp 25) v18 (vs_1.tail.headD undef)) (fun v26 w =>
        LiftP Tryz.prog (convert 138 5 v26) (fun v27 w =>
        LiftP Tryz.prog (Instr.buildSlice 124 1 #[(0, v27)]) (fun v28 w =>
        NextP Tryz.prog (builtin Go.Builtin.append #[124, 124] 124 #[false, false] #[(vs_1.headD undef), v28]) (fun v29 w =>
        LiftP Tryz.prog (binS Go.BinOp.sub 3 (Go.Operand.tmp 21) (Go.Operand.const (Go.Value.int Go.IntKind.i64 8)) (vs_1.tail.headD undef) (Go.Value.int Go.IntKind.i64 8)) (fun v22 w =>
        J_1 [v29, v22] w) w) w) w) w) w) (fun w =>
          J [(vs_1.headD undef)] w) w) w) [v10, (Go.Value.int Go.IntKind.i64 56)] w) w) w) w) w) (fun w =>
      LiftP Tryz.prog (binS Go.BinOp.eql 3 (Go.Operand.tmp 12) (Go.Operand.const (Go.Value.int Go.IntKind.i64 2)) v12 (Go.Value.int Go.IntKind.i64 2)) (fun v31 w =>
      CondP v31 (fun w =>
        LiftP Tryz.prog (Instr.fieldAt 67 v1 2) (fun v33 w =>
        LiftP Tryz.prog (Instr.loadAt 9 v33) (fun v34 w =>
        CallP Tryz.prog 102 #[v34, (Go.Value.string { data := #[0] }), (Go.Value.string { data := #[0, 255] })] (fun v35 w =>
        NextP Tryz.prog (builtin Go.Builtin.append #[124, 9] 124 #[false, false] #[v10, v35]) (fun v36 w =>
        LiftP Tryz.prog (Instr.buildSlice 124 2 #[(0, (Go.Value.int Go.IntKind.u8 0)), (1, (Go.Value.int Go.IntKind.u8 0))]) (fun v37 w =>
        NextP Tryz.prog (builtin Go.Builtin.append #[124, 124] 124 #[false, false] #[v36, v37]) (fun v38 w =>
        J [v38] w) w) w) w) w) w) w) (fun w =>
        J [v10] w) w) w) w) w) w) w) (fun vs w =>   -- [3]
  R (vs.headD undef) w) w) w) w) w) w) w) w
theorem S86.calls (a0 : Value) (R : Value → World → Prop) (w : World) (h : S86 a0 R w) : Calls Tryz.prog 86 #[a0] w fun e w' => ∃ v, e = .returned v ∧ R v w' :=
  calls_of_tr (n := 40) (c := bodyOf Tryz.f86) (.two .leaf (.two .leaf (.join [3] (.two .leaf (.one (.two .leaf (.two (.two .leaf (.two .leaf (.one (.loop [3, 5] (.two (.two .leaf (.two .leaf .leaf)) (.two (.one .leaf) .leaf)))))) (.two .leaf (.two .leaf .leaf)))))) (.two .leaf .leaf)))) Tryz.func86 (by kernel_rfl) Tryz.ntmps86 (by kernel_rfl) (by kernel_rfl) [a0] (by kernel_rfl) (of_eq_ (by kernel_rfl) h)

/-- slices.IndexFunc[[]shelfmark/api.Row,shelfmark/api.Row] -/
def S87 (a0 a1 : Value) (R : Value → World → Prop) (w : World) : Prop :=
  NextP Tryz.prog (builtin Go.Builtin.len #[35] 3 #[false] #[a0]) (fun v7 w =>
  LoopP (fun J vs w =>   -- [8]
    LiftP Tryz.prog (binS Go.BinOp.lss 3 (Go.Operand.tmp 8) (Go.Operand.tmp 7) (vs.headD undef) v7) (fun v9 w =>
    CondP v9 (fun w =>
      LiftP Tryz.prog (Instr.indexAt 35 a0 (vs.headD undef)) (fun v14 w =>
    LiftP Tryz.prog (Instr.loadAt 40 v14) (fun v15 w =>
    NextP Tryz.prog (callV a1 #[v15]) (fun v16 w =>
    CondP v16 (fun w =>
      R (vs.headD undef) w) (fun w =>
      LiftP Tryz.prog (binS Go.BinOp.add 3 (Go.Operand.tmp 8) (Go.Operand.const (Go.Value.int Go.IntKind.i64 1)) (vs.headD undef) (Go.Value.int Go.IntKind.i64 1)) (fun v18 w =>
    J [v18] w) w) w) w) w) w) (fun w =>
      R (Go.Value.int Go.IntKind.i64 (-1)) w) w) w) [(Go.Value.int Go.IntKind.i64 0)] w) w
theorem S87.calls (a0 a1 : Value) (R : Value → World → Prop) (w : World) (h : S87 a0 a1 R w) : Calls Tryz.prog 87 #[a0, a1] w fun e w' => ∃ v, e = .returned v ∧ R v w' :=
  calls_of_tr (n := 19) (c := bodyOf Tryz.f87) (.two .leaf (.two (.two .leaf (.one (.loop [8] (.two .leaf (.two (.two .leaf .leaf) (.two (.one (.two .leaf (.two .leaf (.two (.two .leaf .leaf) .leaf)))) .leaf)))))) (.two .leaf .leaf))) Tryz.func87 (by kernel_rfl) Tryz.ntmps87 (by kernel_rfl) (by kernel_rfl) [a0, a1] (by kernel_rfl) (of_eq_ (by kernel_rfl) h)

/-- shelfmark/tuple.Compare -/
def S93 (a0 a1 : Value) (R : Value → World → Prop) (w : World) : Prop :=
  CallP Tryz.prog 85 #[a0] (fun v6 w =>
  LiftP Tryz.prog (binS Go.BinOp.neq 29 (Go.Operand.tmp 6) (Go.Operand.const (Go.Value.int Go.IntKind.i64 0)) v6 (Go.Value.int Go.IntKind.i64 0)) (fun v7 w =>
  GuardP v7 false (fun K w => K a1 w) (fun v9 w =>
  GuardP v7 false (fun K w => CallP Tryz.prog 85 #[v9] K w) (fun v10 w =>
  GuardP v7 false (fun K w => LiftP Tryz.prog (binS Go.BinOp.neq 29 (Go.Operand.tmp 10) (Go.Operand.const (Go.Value.int Go.IntKind.i64 0)) v10 (Go.Value.int Go.IntKind.i64 0)) K w) (fun v11 w =>
  PickP v7 (Go.Value.bool true) v11 (fun v12 w =>
  CondP v12 (fun w =>
    R (Go.Value.int Go.IntKind.i64 0) w) (fun w =>
    CallP Tryz.prog 115 #[a0, a1, (.func (.func 116) #[] #[])] (fun v15 w =>
  R v15 w) w) w) w) w) w) w) w) w
theorem S93.calls (a0 a1 : Value) (R : Value → World → Prop) (w : World) (h : S93 a0 a1 R w) : Calls Tryz.prog 93 #[a0, a1] w fun e w' => ∃ v, e = .returned v ∧ R v w' :=
  calls_of_tr (n := 16) (c := bodyOf Tryz.f93) (.two .leaf (.two (.two .leaf (.two (.two .leaf .leaf) .leaf)) (.two .leaf .leaf))) Tryz.func93 (by kernel_rfl) Tryz.ntmps93 (by kernel_rfl) (by kernel_rfl) [a0, a1] (by kernel_rfl) (of_eq_ (by kernel_rfl) h)

/-- slices.ContainsFunc[[]shelfmark/api.Val,shelfmark/api.Val] -/
def S94 (a0 a1 : Value) (R : Value → World → Prop) (w : World) : Prop :=
  CallP Tryz.prog 119 #[a0, a1] (fun v7 w =>
  LiftP Tryz.prog (binS Go.BinOp.geq 3 (Go.Operand.tmp 7) (Go.Operand.const (Go.Value.int Go.IntKind.i64 0)) v7 (Go.Value.int Go.IntKind.i64 0)) (fun v8 w =>
  R v8 w) w) w
theorem S94.calls (a0 a1 : Value) (R : Value → World → Prop) (w : World) (h : S94 a0 a1 R w) : Calls Tryz.prog 94 #[a0, a1] w fun e w' => ∃ v, e = .returned v ∧ R v w' :=
  calls_of_tr (n := 9) (c := bodyOf Tryz.f94) (.two .leaf (.two .leaf .leaf)) Tryz.func94 (by kernel_rfl) Tryz.ntmps94 (by kernel_rfl) (by kernel_rfl) [a0, a1] (by kernel_rfl) (of_eq_ (by kernel_rfl) h)

/-- shelfmark/record.null -/
def S95 (a0 : Value) (R : Value → World → Prop) (w : World) : Prop :=
  LiftP Tryz.prog (Instr.box 67 a0) (fun v1 w =>
  LiftP Tryz.prog (Instr.fieldAt 67 v1 0) (fun v3 w =>
  LiftP Tryz.prog (Instr.loadAt 3 v3) (fun v4 w =>
  LiftP Tryz.prog (binS Go.BinOp.eql 3 (Go.Operand.tmp 4) (Go.Operand.const (Go.Value.int Go.IntKind.i64 0)) v4 (Go.Value.int Go.IntKind.i64 0)) (fun v5 w =>
  R v5 w) w) w) w) w
theorem S95.calls (a0 : Value) (R : Value → World → Prop) (w : World) (h : S95 a0 R w) : Calls Tryz.prog 95 #[a0] w fun e w' => ∃ v, e = .returned v ∧ R v w' :=
  calls_of_tr (n := 6) (c := bodyOf Tryz.f95) (.two .leaf (.two .leaf .leaf)) Tryz.func95 (by kernel_rfl) Tryz.ntmps95 (by kernel_rfl) (by kernel_rfl) [a0] (by kernel_rfl) (of_eq_ (by kernel_rfl) h)

/-- shelfmark/record.id2 -/
def S96 (a0 : Value) (R : Value → World → Prop) (w : World) : Prop :=
  LiftP Tryz.prog (binS Go.BinOp.shr 3 (Go.Operand.tmp 3) (Go.Operand.const (Go.Value.int Go.IntKind.u64 8)) a0 (Go.Value.int Go.IntKind.u64 8)) (fun v4 w =>
  LiftP Tryz.prog (convert 3 5 v4) (fun v5 w =>
  LiftP Tryz.prog (convert 3 5 a0) (fun v7 w =>
  LiftP Tryz.prog (Instr.buildSlice 124 2 #[(0, v5), (1, v7)]) (fun v8 w =>
  LiftP Tryz.prog (convert 124 9 v8) (fun v9 w =>
  R v9 w) w) w) w) w) w
theorem S96.calls (a0 : Value) (R : Value → World → Prop) (w : World) (h : S96 a0 R w) : Calls Tryz.prog 96 #[a0] w fun e w' => ∃ v, e = .returned v ∧ R v w' :=
  calls_of_tr (n := 10) (c := bodyOf Tryz.f96) (.two .leaf (.two .leaf .leaf)) Tryz.func96 (by kernel_rfl) Tryz.ntmps96 (by kernel_rfl) (by kernel_rfl) [a0] (by kernel_rfl) (of_eq_ (by kernel_rfl) h)

/-- cmp.isNaN[string] -/
def S98 (a0 : Value) (R : Value → World → Prop) (w : World) : Prop :=
  LiftP Tryz.prog (binS Go.BinOp.neq 9 (Go.Operand.tmp 3) (Go.Operand.tmp 4) a0 a0) (fun v5 w =>
  R v5 w) w
theorem S98.calls (a0 : Value) (R : Value → World → Prop) (w : World) (h : S98 a0 R w) : Calls Tryz.prog 98 #[a0] w fun e w' => ∃ v, e = .returned v ∧ R v w' :=
  calls_of_tr (n := 6) (c := bodyOf Tryz.f98) (.two .leaf (.two .leaf .leaf)) Tryz.func98 (by kernel_rfl) Tryz.ntmps98 (by kernel_rfl) (by kernel_rfl) [a0] (by kernel_rfl) (of_eq_ (by kernel_rfl) h)

/-- slices.IndexFunc[shelfmark/api.Record,shelfmark/api.Val] -/
def S99 (a0 a1 : Value) (R : Value → World → Prop) (w : World) : Prop :=
  NextP Tryz.prog (builtin Go.Builtin.len #[23] 3 #[false] #[a0]) (fun v7 w =>
  LoopP (fun J vs w =>   -- [8]
    LiftP Tryz.prog (binS Go.BinOp.lss 3 (Go.Operand.tmp 8) (Go.Operand.tmp 7) (vs.headD undef) v7) (fun v9 w =>
    CondP v9 (fun w =>
      LiftP Tryz.prog (Instr.indexAt 23 a0 (vs.headD undef)) (fun v14 w =>
    LiftP Tryz.prog (Instr.loadAt 67 v14) (fun v15 w =>
    NextP Tryz.prog (callV a1 #[v15]) (fun v16 w =>
    CondP v16 (fun w =>
      R (vs.headD undef) w) (fun w =>
      LiftP Tryz.prog (binS Go.BinOp.add 3 (Go.Operand.tmp 8) (Go.Operand.const (Go.Value.int Go.IntKind.i64 1)) (vs.headD undef) (Go.Value.int Go.IntKind.i64 1)) (fun v18 w =>
    J [v18] w) w) w) w) w) w) (fun w =>
      R (Go.Value.int Go.IntKind.i64 (-1)) w) w) w) [(Go.Value.int Go.IntKind.i64 0)] w) w
theorem S99.calls (a0 a1 : Value) (R : Value → World → Prop) (w : World) (h : S99 a0 a1 R w) : Calls Tryz.prog 99 #[a0, a1] w fun e w' => ∃ v, e = .returned v ∧ R v w' :=
  calls_of_tr (n := 19) (c := bodyOf Tryz.f99) (.two .leaf (.two (.two .leaf (.one (.loop [8] (.two .leaf (.two (.two .leaf .leaf) (.two (.one (.two .leaf (.two .leaf (.two (.two .leaf .leaf) .leaf)))) .leaf)))))) (.two .leaf .leaf))) Tryz.func99 (by kernel_rfl) Tryz.ntmps99 (by kernel_rfl) (by kernel_rfl) [a0, a1] (by kernel_rfl) (of_eq_ (by kernel_rfl) h)

/-- shelfmark/tuple.Good -/
def S100 (a0 : Value) (R : Value → World → Prop) (w : World) : Prop :=
  LiftP Tryz.prog (Instr.box 67 a0) (fun v1 w =>
  LiftP Tryz.prog (Instr.fieldAt 67 v1 0) (fun v3 w =>
  LiftP Tryz.prog (Instr.loadAt 3 v3) (fun v4 w =>
  LiftP Tryz.prog (binS Go.BinOp.eql 3 (Go.Operand.tmp 4) (Go.Operand.const (Go.Value.int Go.IntKind.i64 0)) v4 (Go.Value.int Go.IntKind.i64 0)) (fun v6 w =>
  CondP v6 (fun w =>
    LiftP Tryz.prog (Instr.loadAt 67 v1) (fun v7 w =>
    LiftP Tryz.prog (Instr.build 67 #[]) (fun v8 w =>
    LiftP Tryz.prog (binS Go.BinOp.eql 67 (Go.Operand.tmp 7) (Go.Operand.tmp 8) v7 v8) (fun v9 w =>
    R v9 w) w) w) w) (fun w =>
    LiftP Tryz.prog (binS Go.BinOp.eql 3 (Go.Operand.tmp 4) (Go.Operand.const (Go.Value.int Go.IntKind.i64 1)) v4 (Go.Value.int Go.IntKind.i64 1)) (fun v11 w =>
    CondP v11 (fun w =>
      LiftP Tryz.prog (Instr.fieldAt 67 v1 2) (fun v12 w =>
      LiftP Tryz.prog (Instr.loadAt 9 v12) (fun v13 w =>
      LiftP Tryz.prog (binS Go.BinOp.eql 9 (Go.Operand.tmp 13) (Go.Operand.const (Go.Value.string { data := #[] })) v13 (Go.Value.string { data := #[] })) (fun v14 w =>
      R v14 w) w) w) w) (fun w =>
      LiftP Tryz.prog (binS Go.BinOp.eql 3 (Go.Operand.tmp 4) (Go.Operand.const (Go.Value.int Go.IntKind.i64 2)) v4 (Go.Value.int Go.IntKind.i64 2)) (fun v16 w =>
      CondP v16 (fun w =>
        LiftP Tryz.prog (Instr.fieldAt 67 v1 1) (fun v17 w =>
        LiftP Tryz.prog (Instr.loadAt 3 v17) (fun v18 w =>
        LiftP Tryz.prog (binS Go.BinOp.eql 3 (Go.Operand.tmp 18) (Go.Operand.const (Go.Value.int Go.IntKind.i64 0)) v18 (Go.Value.int Go.IntKind.i64 0)) (fun v19 w =>
        GuardP v19 true (fun K w => LiftP Tryz.prog (Instr.fieldAt 67 v1 2) K w) (fun v21 w =>
        GuardP v19 true (fun K w => LiftP Tryz.prog (Instr.loadAt 9 v21) K w) (fun v22 w =>
        GuardP v19 true (fun K w => NextP Tryz.prog (builtin Go.Builtin.len #[9] 3 #[false] #[v22]) K w) (fun v23 w =>
        GuardP v19 true (fun K w => LiftP Tryz.prog (binS Go.BinOp.leq 3 (Go.Operand.tmp 23) (Go.Operand.const (Go.Value.int Go.IntKind.i64 32)) v23 (Go.Value.int Go.IntKind.i64 32)) K w) (fun v24 w =>
        PickP v19 v24 (Go.Value.bool false) (fun v25 w =>
        R v25 w) w) w) w) w) w) w) w) w) (fun w =>
        R (Go.Value.bool false) w) w) w) w) w) w) w) w) w) w
theorem S100.calls (a0 : Value) (R : Value → World → Prop) (w : World) (h : S100 a0 R w) : Calls Tryz.prog 100 #[a0] w fun e w' => ∃ v, e = .returned v ∧ R v w' :=
  calls_of_tr (n := 26) (c := bodyOf Tryz.f100) (.two .leaf (.two (.two .leaf (.one (.two .leaf (.two (.two .leaf .leaf) (.two .leaf (.two (.two .leaf .leaf) (.two .leaf (.two (.two .leaf .leaf) .leaf)))))))) (.two .leaf .leaf))) Tryz.func100 (by kernel_rfl) Tryz.ntmps100 (by kernel_rfl) (by kernel_rfl) [a0] (by kernel_rfl) (of_eq_ (by kernel_rfl) h)

/-- shelfmark/tuple.row$1 -/
def S101 (a0 : Value) (R : Value → World → Prop) (w : World) : Prop :=
  LiftP Tryz.prog (Instr.box 67 a0) (fun v1 w =>
  LiftP Tryz.prog (Instr.loadAt 67 v1) (fun v3 w =>
  CallP Tryz.prog 100 #[v3] (fun v4 w =>
  LiftP Tryz.prog (Op.unary Go.UnOp.not v4) (fun v5 w =>
  R v5 w) w) w) w) w
theorem S101.calls (a0 : Value) (R : Value → World → Prop) (w : World) (h : S101 a0 R w) : Calls Tryz.prog 101 #[a0] w fun e w' => ∃ v, e = .returned v ∧ R v w' :=
  calls_of_tr (n := 6) (c := bodyOf Tryz.f101) (.two .leaf (.two .leaf .leaf)) Tryz.func101 (by kernel_rfl) Tryz.ntmps101 (by kernel_rfl) (by kernel_rfl) [a0] (by kernel_rfl) (of_eq_ (by kernel_rfl) h)

/-- slices.CompareFunc[[]shelfmark/api.Val,[]shelfmark/api.Val,shelfmark/api.Val,shelfmark/api.Val] -/
def S115 (a0 a1 a2 : Value) (R : Value → World → Prop) (w : World) : Prop :=
  NextP Tryz.prog (builtin Go.Builtin.len #[22] 3 #[false] #[a0]) (fun v12 w =>
  LoopP (fun J vs w =>   -- [13]
    LiftP Tryz.prog (binS Go.BinOp.lss 3 (Go.Operand.tmp 13) (Go.Operand.tmp 12) (vs.headD undef) v12) (fun v14 w =>
    CondP v14 (fun w =>
      LiftP Tryz.prog (Instr.indexAt 22 a0 (vs.headD undef)) (fun v16 w =>
    LiftP Tryz.prog (Instr.loadAt 67 v16) (fun v17 w =>
    LiftP Tryz.prog (Instr.alloc 67 true (.tuple #[])) (fun v8 w =>
    LiftU Tryz.prog (Instr.storeAt 67 v8 v17) (fun v_ w =>
    NextP Tryz.prog (builtin Go.Builtin.len #[22] 3 #[false] #[a1]) (fun v20 w =>
    LiftP Tryz.prog (binS Go.BinOp.geq 3 (Go.Operand.tmp 18) (Go.Operand.tmp 20) (vs.headD undef) v20) (fun v21 w =>
    CondP v21 (fun w =>
      R (Go.Value.int Go.IntKind.i64 1) w) (fun w =>
      LiftP Tryz.prog (Instr.indexAt 22 a1 (vs.headD undef)) (fun v24 w =>
    LiftP Tryz.prog (Instr.loadAt 67 v24) (fun v25 w =>
    LiftP Tryz.prog (Instr.alloc 67 true (.tuple #[])) (fun v9 w =>
    LiftU Tryz.prog (Instr.storeAt 67 v9 v25) (fun v__1 w =>
    LiftP Tryz.prog (Instr.loadAt 67 v8) (fun v27 w =>
    LiftP Tryz.prog (Instr.loadAt 67 v9) (fun v28 w =>
    NextP Tryz.prog (callV a2 #[v27, v28]) (fun v29 w =>
    LiftP Tryz.prog (binS Go.BinOp.neq 3 (Go.Operand.tmp 30) (Go.Operand.const (Go.Value.int Go.IntKind.i64 0)) v29 (Go.Value.int Go.IntKind.i64 0)) (fun v31 w =>
    CondP v31 (fun w =>
      R v29 w) (fun w =>
      LiftP Tryz.prog (binS Go.BinOp.add 3 (Go.Operand.tmp 13) (Go.Operand.const (Go.Value.int Go.IntKind.i64 1)) (vs.headD undef) (Go.Value.int Go.IntKind.i64 1)) (fun v33 w =>
    J [v33] w) w) w) w) w) w) w) w) w) w) w) w) w) w) w) w) w) w) (fun w =>
      NextP Tryz.prog (builtin Go.Builtin.len #[22] 3 #[false] #[a0]) (fun v35 w =>
  NextP Tryz.prog (builtin Go.Builtin.len #[22] 3 #[false] #[a1]) (fun v37 w =>
  LiftP Tryz.prog (binS Go.BinOp.lss 3 (Go.Operand.tmp 35) (Go.Operand.tmp 37) v35 v37) (fun v38 w =>
  CondP v38 (fun w =>
    R (Go.Value.int Go.IntKind.i64 (-1)) w) (fun w =>
    R (Go.Value.int Go.IntKind.i64 0) w) w) w) w) w) w) w) [(Go.Value.int Go.IntKind.i64 0)] w) w
theorem S115.calls (a0 a1 a2 : Value) (R : Value → World → Prop) (w : World) (h : S115 a0 a1 a2 R w) : Calls Tryz.prog 115 #[a0, a1, a2] w fun e w' => ∃ v, e = .returned v ∧ R v w' :=
  calls_of_tr (n := 39) (c := bodyOf Tryz.f115) (.two .leaf (.two (.two .leaf (.one (.loop [13] (.two .leaf (.two (.two .leaf .leaf) (.two (.one (.two .leaf (.two (.two .leaf (.two (.two .leaf .leaf) .leaf)) (.two .leaf (.two .leaf (.two .leaf (.two (.two .leaf .leaf) .leaf))))))) .leaf)))))) (.two (.two .leaf (.two (.two .leaf .leaf) .leaf)) (.two .leaf .leaf)))) Tryz.func115 (by kernel_rfl) Tryz.ntmps115 (by kernel_rfl) (by kernel_rfl) [a0, a1, a2] (by kernel_rfl) (of_eq_ (by kernel_rfl) h)

/-- shelfmark/tuple.Compare$1 -/
def S116 (a0 a1 : Value) (R : Value → World → Prop) (w : World) : Prop :=
  LiftP Tryz.prog (Instr.box 67 a0) (fun v2 w =>
  LiftP Tryz.prog (Instr.box 67 a1) (fun v3 w =>
  DrawP (fun S w =>
  YieldP Tryz.prog S (Instr.fieldAt 67 v2 0) (fun v5 w =>
  YieldP Tryz.prog S (Instr.loadAt 3 v5) (fun v6 w =>
  YieldP Tryz.prog S (Instr.fieldAt 67 v3 0) (fun v7 w =>
  YieldP Tryz.prog S (Instr.loadAt 3 v7) (fun v8 w =>
  YieldP Tryz.prog S (Instr.fieldAt 67 v2 1) (fun v10 w =>
  YieldP Tryz.prog S (Instr.loadAt 3 v10) (fun v11 w =>
  YieldP Tryz.prog S (Instr.fieldAt 67 v3 1) (fun v12 w =>
  YieldP Tryz.prog S (Instr.loadAt 3 v12) (fun v13 w =>
  YieldP Tryz.prog S (Instr.fieldAt 67 v2 2) (fun v15 w =>
  YieldP Tryz.prog S (Instr.loadAt 9 v15) (fun v16 w =>
  YieldP Tryz.prog S (Instr.fieldAt 67 v3 2) (fun v17 w =>
  YieldP Tryz.prog S (Instr.loadAt 9 v17) (fun v18 w =>
  ActP S (fun K w => CallP Tryz.prog 118 #[v6, v8] K w) (fun S v9 w =>
  ActP S (fun K w => CallP Tryz.prog 118 #[v11, v13] K w) (fun S v14 w =>
  ActP S (fun K w => CallP Tryz.prog 82 #[v16, v18] K w) (fun S v19 w =>
  ActP S (fun K w => LiftP Tryz.prog (Instr.buildSlice 24 3 #[(0, v9), (1, v14), (2, v19)]) K w) (fun S v20 w =>
  ActP S (fun K w => CallP Tryz.prog 117 #[v20] K w) (fun S v21 w =>
  R v21 w) w) w) w) w) w) w) w) w) w) w) w) w) w) w) w) w) w) w) w) w
theorem S116.calls (a0 a1 : Value) (R : Value → World → Prop) (w : World) (h : S116 a0 a1 R w) : Calls Tryz.prog 116 #[a0, a1] w fun e w' => ∃ v, e = .returned v ∧ R v w' :=
  calls_of_tr (n := 22) (c := bodyOf Tryz.f116) (.two .leaf (.two (.draw [(true, 0), (true, 1), (true, 2), (true, 3), (true, 5), (true, 6), (true, 7), (true, 8), (true, 10), (true, 11), (true, 12), (true, 13), (false, 4), (false, 9), (false, 14), (false, 15), (false, 16), (true, 17)]) .leaf)) Tryz.func116 (by kernel_rfl) Tryz.ntmps116 (by kernel_rfl) (by kernel_rfl) [a0, a1] (by kernel_rfl) (of_eq_ (by kernel_rfl) h)

/-- cmp.Or[int] -/
def S117 (a0 : Value) (R : Value → World → Prop) (w : World) : Prop :=
  NextP Tryz.prog (builtin Go.Builtin.len #[24] 3 #[false] #[a0]) (fun v7 w =>
  LoopP (fun J vs w =>   -- [8]
    LiftP Tryz.prog (binS Go.BinOp.lss 3 (Go.Operand.tmp 8) (Go.Operand.tmp 7) (vs.headD undef) v7) (fun v9 w =>
    CondP v9 (fun w =>
      LiftP Tryz.prog (Instr.indexAt 24 a0 (vs.headD undef)) (fun v10 w =>
    LiftP Tryz.prog (Instr.loadAt 3 v10) (fun v11 w =>
    LiftP Tryz.prog (binS Go.BinOp.neq 3 (Go.Operand.tmp 12) (Go.Operand.tmp 13) v11 (Go.Value.int Go.IntKind.i64 0)) (fun v14 w =>
    CondP v14 (fun w =>
      R v11 w) (fun w =>
      LiftP Tryz.prog (binS Go.BinOp.add 3 (Go.Operand.tmp 8) (Go.Operand.const (Go.Value.int Go.IntKind.i64 1)) (vs.headD undef) (Go.Value.int Go.IntKind.i64 1)) (fun v16 w =>
    J [v16] w) w) w) w) w) w) (fun w =>
      R (Go.Value.int Go.IntKind.i64 0) w) w) w) [(Go.Value.int Go.IntKind.i64 0)] w) w
theorem S117.calls (a0 : Value) (R : Value → World → Prop) (w : World) (h : S117 a0 R w) : Calls Tryz.prog 117 #[a0] w fun e w' => ∃ v, e = .returned v ∧ R v w' :=
  calls_of_tr (n := 18) (c := bodyOf Tryz.f117) (.two .leaf (.two .leaf (.two (.two .leaf (.one (.loop [8] (.two .leaf (.two (.two .leaf .leaf) (.two (.one (.two .leaf (.two .leaf (.two (.two .leaf .leaf) .leaf)))) .leaf)))))) (.two .leaf .leaf)))) Tryz.func117 (by kernel_rfl) Tryz.ntmps117 (by kernel_rfl) (by kernel_rfl) [a0] (by kernel_rfl) (of_eq_ (by kernel_rfl) h)

/-- cmp.Compare[int] -/
def S118 (a0 a1 : Value) (R : Value → World → Prop) (w : World) : Prop :=
  CallP Tryz.prog 134 #[a0] (fun v8 w =>
  CallP Tryz.prog 134 #[a1] (fun v10 w =>
  CondP v8 (fun w =>
    CondP v10 (fun w =>
      R (Go.Value.int Go.IntKind.i64 0) w) (fun w =>
      R (Go.Value.int Go.IntKind.i64 (-1)) w) w) (fun w =>
    CondP v10 (fun w =>
    R (Go.Value.int Go.IntKind.i64 1) w) (fun w =>
    LiftP Tryz.prog (binS Go.BinOp.lss 3 (Go.Operand.tmp 14) (Go.Operand.tmp 15) a0 a1) (fun v16 w =>
  CondP v16 (fun w =>
    R (Go.Value.int Go.IntKind.i64 (-1)) w) (fun w =>
    LiftP Tryz.prog (binS Go.BinOp.gtr 3 (Go.Operand.tmp 17) (Go.Operand.tmp 18) a0 a1) (fun v19 w =>
  CondP v19 (fun w =>
    R (Go.Value.int Go.IntKind.i64 1) w) (fun w =>
    R (Go.Value.int Go.IntKind.i64 0) w) w) w) w) w) w) w) w) w
theorem S118.calls (a0 a1 : Value) (R : Value → World → Prop) (w : World) (h : S118 a0 a1 R w) : Calls Tryz.prog 118 #[a0, a1] w fun e w' => ∃ v, e = .returned v ∧ R v w' :=
  calls_of_tr (n := 20) (c := bodyOf Tryz.f118) (.two .leaf (.two .leaf (.two .leaf (.two (.two .leaf (.two (.two (.two .leaf (.two (.two .leaf .leaf) .leaf)) (.two .leaf .leaf)) .leaf)) (.two (.two .leaf (.two (.two .leaf .leaf) .leaf)) (.two (.two .leaf (.two (.two .leaf .leaf) .leaf)) (.two (.two .leaf (.two (.two .leaf .leaf) .leaf)) (.two .leaf .leaf)))))))) Tryz.func118 (by kernel_rfl) Tryz.ntmps118 (by kernel_rfl) (by kernel_rfl) [a0, a1] (by kernel_rfl) (of_eq_ (by kernel_rfl) h)

/-- slices.IndexFunc[[]shelfmark/api.Val,shelfmark/api.Val] -/
def S119 (a0 a1 : Value) (R : Value → World → Prop) (w : World) : Prop :=
  NextP Tryz.prog (builtin Go.Builtin.len #[22] 3 #[false] #[a0]) (fun v7 w =>
  LoopP (fun J vs w =>   -- [8]
    LiftP Tryz.prog (binS Go.BinOp.lss 3 (Go.Operand.tmp 8) (Go.Operand.tmp 7) (vs.headD undef) v7) (fun v9 w =>
    CondP v9 (fun w =>
      LiftP Tryz.prog (Instr.indexAt 22 a0 (vs.headD undef)) (fun v14 w =>
    LiftP Tryz.prog (Instr.loadAt 67 v14) (fun v15 w =>
    NextP Tryz.prog (callV a1 #[v15]) (fun v16 w =>
    CondP v16 (fun w =>
      R (vs.headD undef) w) (fun w =>
      LiftP Tryz.prog (binS Go.BinOp.add 3 (Go.Operand.tmp 8) (Go.Operand.const (Go.Value.int Go.IntKind.i64 1)) (vs.headD undef) (Go.Value.int Go.IntKind.i64 1)) (fun v18 w =>
    J [v18] w) w) w) w) w) w) (fun w =>
      R (Go.Value.int Go.IntKind.i64 (-1)) w) w) w) [(Go.Value.int Go.IntKind.i64 0)] w) w
theorem S119.calls (a0 a1 : Value) (R : Value → World → Prop) (w : World) (h : S119 a0 a1 R w) : Calls Tryz.prog 119 #[a0, a1] w fun e w' => ∃ v, e = .returned v ∧ R v w' :=
  calls_of_tr (n := 19) (c := bodyOf Tryz.f119) (.two .leaf (.two (.two .leaf (.one (.loop [8] (.two .leaf (.two (.two .leaf .leaf) (.two (.one (.two .leaf (.two .leaf (.two (.two .leaf .leaf) .leaf)))) .leaf)))))) (.two .leaf .leaf))) Tryz.func119 (by kernel_rfl) Tryz.ntmps119 (by kernel_rfl) (by kernel_rfl) [a0, a1] (by kernel_rfl) (of_eq_ (by kernel_rfl) h)

/-- cmp.isNaN[int] -/
def S134 (a0 : Value) (R : Value → World → Prop) (w : World) : Prop :=
  LiftP Tryz.prog (binS Go.BinOp.neq 3 (Go.Operand.tmp 3) (Go.Operand.tmp 4) a0 a0) (fun v5 w =>
  R v5 w) w
theorem S134.calls (a0 : Value) (R : Value → World → Prop) (w : World) (h : S134 a0 R w) : Calls Tryz.prog 134 #[a0] w fun e w' => ∃ v, e = .returned v ∧ R v w' :=
  calls_of_tr (n := 6) (c := bodyOf Tryz.f134) (.two .leaf (.two .leaf .leaf)) Tryz.func134 (by kernel_rfl) Tryz.ntmps134 (by kernel_rfl) (by kernel_rfl) [a0] (by kernel_rfl) (of_eq_ (by kernel_rfl) h)

end Go.Proofs.YtonblppkidpmlaaGreatDoor.E
