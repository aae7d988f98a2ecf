import Derived.Test.YtcfncjejpjjhdaaM1
import Derived.Test.YtcfncjejpjjhdaaProg
import Derived.KernelRfl
namespace Go.Proofs.Ytcfncjejpjjhdaa.E
open Go
set_option maxRecDepth 100000

/-- shelfmark/shelfmarkref11.Light -/
def S8 (a0 a1 : Value) (R : Value → World → Prop) (w : World) : Prop :=
  LoopP (fun J vs w =>   -- [5]
    NextP Try.prog (builtin Go.Builtin.len #[22] 3 #[false] #[a0]) (fun v8 w =>
    LiftP Try.prog (binS Go.BinOp.lss 3 (Go.Operand.tmp 6) (Go.Operand.tmp 8) (vs.headD undef) v8) (fun v9 w =>
    GuardP v9 true (fun K w => K (vs.headD undef) w) (fun v11 w =>
    GuardP v9 true (fun K w => K a1 w) (fun v12 w =>
    GuardP v9 true (fun K w => LiftP Try.prog (binS Go.BinOp.leq 3 (Go.Operand.tmp 11) (Go.Operand.tmp 12) v11 v12) K w) (fun v13 w =>
    PickP v9 v13 (Go.Value.bool false) (fun v14 w =>
    CondP v14 (fun w =>
      LiftP Try.prog (Instr.indexAt 22 a0 (vs.headD undef)) (fun v19 w =>
    LiftP Try.prog (Instr.fieldAt 32 v19 0) (fun v20 w =>
    LiftP Try.prog (Instr.loadAt 9 v20) (fun v21 w =>
    NextP Try.prog (builtin Go.Builtin.len #[9] 3 #[false] #[v21]) (fun v22 w =>
    LiftP Try.prog (binS Go.BinOp.gtr 3 (Go.Operand.tmp 22) (Go.Operand.const (Go.Value.int Go.IntKind.i64 200)) v22 (Go.Value.int Go.IntKind.i64 200)) (fun v23 w =>
    GuardP v23 false (fun K w => K a0 w) (fun v25 w =>
    GuardP v23 false (fun K w => K (vs.headD undef) w) (fun v26 w =>
    GuardP v23 false (fun K w => LiftP Try.prog (Instr.indexAt 22 v25 v26) K w) (fun v27 w =>
    GuardP v23 false (fun K w => LiftP Try.prog (Instr.fieldAt 32 v27 1) K w) (fun v28 w =>
    GuardP v23 false (fun K w => LiftP Try.prog (Instr.loadAt 9 v28) K w) (fun v29 w =>
    GuardP v23 false (fun K w => NextP Try.prog (builtin Go.Builtin.len #[9] 3 #[false] #[v29]) K w) (fun v30 w =>
    GuardP v23 false (fun K w => LiftP Try.prog (binS Go.BinOp.gtr 3 (Go.Operand.tmp 30) (Go.Operand.const (Go.Value.int Go.IntKind.i64 200)) v30 (Go.Value.int Go.IntKind.i64 200)) K w) (fun v31 w =>
    PickP v23 (Go.Value.bool true) v31 (fun v32 w =>
    CondP v32 (fun w =>
      R (Go.Value.bool false) w) (fun w =>
      LiftP Try.prog (binS Go.BinOp.add 3 (Go.Operand.tmp 15) (Go.Operand.const (Go.Value.int Go.IntKind.i64 1)) (vs.headD undef) (Go.Value.int Go.IntKind.i64 1)) (fun v16 w =>
    J [v16] w) w) w) w) w) w) w) w) w) w) w) w) w) w) w) w) (fun w =>
      NextP Try.prog (builtin Go.Builtin.len #[22] 3 #[false] #[a0]) (fun v34 w =>
  LiftP Try.prog (binS Go.BinOp.leq 3 (Go.Operand.tmp 34) (Go.Operand.tmp 35) v34 a1) (fun v36 w =>
  R v36 w) w) w) w) w) w) w) w) w) w) [(Go.Value.int Go.IntKind.i64 0)] w
theorem S8.calls (a0 a1 : Value) (R : Value → World → Prop) (w : World) (h : S8 a0 a1 R w) : Calls Try.prog 8 #[a0, a1] w fun e w' => ∃ v, e = .returned v ∧ R v w' :=
  calls_of_tr (n := 37) (c := bodyOf Try.f8) (.two .leaf (.two (.two .leaf (.one (.loop [5] (.two (.two .leaf (.two .leaf .leaf)) (.two (.one (.two .leaf (.two (.two .leaf .leaf) .leaf))) .leaf))))) (.two .leaf .leaf))) Try.func8 (by kernel_rfl) Try.ntmps8 (by kernel_rfl) (by kernel_rfl) [a0, a1] (by kernel_rfl) (of_eq_ (by kernel_rfl) h)

/-- shelfmark/span.Minus -/
def S30 (a0 a1 : Value) (R : Value → World → Prop) (w : World) : Prop :=
  LiftP Try.prog (Instr.box 32 a1) (fun v3 w =>
  LiftP Try.prog (Instr.loadAt 32 v3) (fun v12 w =>
  CallP Try.prog 55 #[v12] (fun v13 w =>
  CondP v13 (fun w =>
    CallP Try.prog 47 #[a0] (fun v15 w =>
    R v15 w) w) (fun w =>
    CallP Try.prog 47 #[a0] (fun v17 w =>
  NextP Try.prog (builtin Go.Builtin.len #[22] 3 #[false] #[v17]) (fun v18 w =>
  LoopP (fun J vs w =>   -- [5, 19]
    LiftP Try.prog (binS Go.BinOp.lss 3 (Go.Operand.tmp 19) (Go.Operand.tmp 18) (vs.tail.headD undef) v18) (fun v20 w =>
    CondP v20 (fun w =>
      JoinP (fun J_1 w =>
      LiftP Try.prog (Instr.indexAt 22 v17 (vs.tail.headD undef)) (fun v21 w =>
      LiftP Try.prog (Instr.loadAt 32 v21) (fun v22 w =>
      LiftP Try.prog (Instr.alloc 32 true (.tuple #[])) (fun v7 w =>
      LiftU Try.prog (Instr.storeAt 32 v7 v22) (fun v_ w =>
      JoinP (fun J_2 w =>
        LiftP Try.prog (Instr.fieldAt 32 v3 0) (fun v23 w =>
        LiftP Try.prog (Instr.loadAt 9 v23) (fun v24 w =>
        LiftP Try.prog (binS Go.BinOp.neq 9 (Go.Operand.tmp 24) (Go.Operand.const (Go.Value.string { data := #[] })) v24 (Go.Value.string { data := #[] })) (fun v25 w =>
        CondP v25 (fun w =>
          LiftP Try.prog (Instr.loadAt 32 v7) (fun v27 w =>
          LiftP Try.prog (Instr.fieldAt 32 v3 0) (fun v28 w =>
          LiftP Try.prog (Instr.loadAt 9 v28) (fun v29 w =>
          LiftP Try.prog (Instr.build 32 #[(1, v29)]) (fun v30 w =>
          CallP Try.prog 56 #[v27, v30] (fun v31 w =>
          LiftP Try.prog (Instr.extract v31 0) (fun v32 w =>
          LiftP Try.prog (Instr.extract v31 1) (fun v33 w =>
          LiftP Try.prog (Instr.alloc 32 true (.tuple #[])) (fun v8 w =>
          LiftU Try.prog (Instr.storeAt 32 v8 v32) (fun v__1 w =>
          CondP v33 (fun w =>
            LiftP Try.prog (Instr.loadAt 32 v8) (fun v36 w =>
            LiftP Try.prog (Instr.buildSlice 22 1 #[(0, v36)]) (fun v37 w =>
            NextP Try.prog (builtin Go.Builtin.append #[22, 22] 22 #[false, false] #[(vs.headD undef), v37]) (fun v38 w =>
            J_2 [v38] w) w) w) w) (fun w =>
            J_2 [(vs.headD undef)] w) w) w) w) w) w) w) w) w) w) w) (fun w =>
          J_2 [(vs.headD undef)] w) w) w) w) w) (fun vs_2 w =>   -- [5]
      LiftP Try.prog (Instr.fieldAt 32 v3 1) (fun v39 w =>
      LiftP Try.prog (Instr.loadAt 9 v39) (fun v40 w =>
      LiftP Try.prog (binS Go.BinOp.neq 9 (Go.Operand.tmp 40) (Go.Operand.const (Go.Value.string { data := #[] })) v40 (Go.Value.string { data := #[] })) (fun v41 w =>
      CondP v41 (fun w =>
        LiftP Try.prog (Instr.loadAt 32 v7) (fun v43 w =>
        LiftP Try.prog (Instr.fieldAt 32 v3 1) (fun v44 w =>
        LiftP Try.prog (Instr.loadAt 9 v44) (fun v45 w =>
        LiftP Try.prog (Instr.build 32 #[(0, v45)]) (fun v46 w =>
        CallP Try.prog 56 #[v43, v46] (fun v47 w =>
        LiftP Try.prog (Instr.extract v47 0) (fun v48 w =>
        LiftP Try.prog (Instr.extract v47 1) (fun v49 w =>
        LiftP Try.prog (Instr.alloc 32 true (.tuple #[])) (fun v10 w =>
        LiftU Try.prog (Instr.storeAt 32 v10 v48) (fun v__2 w =>
        CondP v49 (fun w =>
          LiftP Try.prog (Instr.loadAt 32 v10) (fun v52 w =>
          LiftP Try.prog (Instr.buildSlice 22 1 #[(0, v52)]) (fun v53 w =>
          NextP Try.prog (builtin Go.Builtin.append #[22, 22] 22 #[false, false] #[(vs_2.headD undef), v53]) (fun v54 w =>
          J_1 [v54] w) w) w) w) (fun w =>
          J_1 [(vs_2.headD undef)] w) w) w) w) w) w) w) w) w) w) w) (fun w =>
        J_1 [(vs_2.headD undef)] w) w) w) w) w) w) w) w) w) w) (fun vs_1 w =>   -- [5]
    LiftP Try.prog (binS Go.BinOp.add 3 (Go.Operand.tmp 19) (Go.Operand.const (Go.Value.int Go.IntKind.i64 1)) (vs.tail.headD undef) (Go.Value.int Go.IntKind.i64 1)) (fun v55 w =>
    J [(vs_1.headD undef), v55] w) w) w) (fun w =>
      R (vs.headD undef) w) w) w) [(Go.Value.slice none 0 0), (Go.Value.int Go.IntKind.i64 0)] w) w) w) w) w) w) w
theorem S30.calls (a0 a1 : Value) (R : Value → World → Prop) (w : World) (h : S30 a0 a1 R w) : Calls Try.prog 30 #[a0, a1] w fun e w' => ∃ v, e = .returned v ∧ R v w' :=
  calls_of_tr (n := 57) (c := bodyOf Try.f30) (.two .leaf (.two (.two .leaf (.two (.two .leaf .leaf) .leaf)) (.two .leaf (.two (.two .leaf (.one (.loop [5, 19] (.two .leaf (.two (.two .leaf .leaf) (.join [5] (.one (.two .leaf (.join [5] (.two .leaf (.two (.two .leaf (.two .leaf (.two .leaf .leaf))) .leaf)) (.two .leaf (.two (.two .leaf (.two .leaf (.two .leaf .leaf))) .leaf))))) .leaf)))))) (.two .leaf .leaf))))) Try.func30 (by kernel_rfl) Try.ntmps30 (by kernel_rfl) (by kernel_rfl) [a0, a1] (by kernel_rfl) (of_eq_ (by kernel_rfl) h)

/-- shelfmark/shelfmarkref11.places -/
def S31 (a0 : Value) (R : Value → World → Prop) (w : World) : Prop :=
  LiftP Try.prog (Instr.buildSlice 73 1 #[(0, (Go.Value.string { data := #[] }))]) (fun v5 w =>
  LoopP (fun J vs w =>   -- [3, 4]
    NextP Try.prog (builtin Go.Builtin.len #[22] 3 #[false] #[a0]) (fun v8 w =>
    LiftP Try.prog (binS Go.BinOp.lss 3 (Go.Operand.tmp 6) (Go.Operand.tmp 8) (vs.tail.headD undef) v8) (fun v9 w =>
    CondP v9 (fun w =>
      DrawP (fun S w =>
    YieldP Try.prog S (Instr.indexAt 22 a0 (vs.tail.headD undef)) (fun v15 w =>
    YieldP Try.prog S (Instr.fieldAt 32 v15 0) (fun v16 w =>
    YieldP Try.prog S (Instr.loadAt 9 v16) (fun v17 w =>
    YieldP Try.prog S (Instr.indexAt 22 a0 (vs.tail.headD undef)) (fun v21 w =>
    YieldP Try.prog S (Instr.fieldAt 32 v21 1) (fun v22 w =>
    YieldP Try.prog S (Instr.loadAt 9 v22) (fun v23 w =>
    ActP S (fun K w => CallP Try.prog 57 #[(vs.headD undef), v17] K w) (fun S v18 w =>
    ActP S (fun K w => CallP Try.prog 57 #[v18, v23] K w) (fun S v24 w =>
    LiftP Try.prog (binS Go.BinOp.add 3 (Go.Operand.tmp 10) (Go.Operand.const (Go.Value.int Go.IntKind.i64 1)) (vs.tail.headD undef) (Go.Value.int Go.IntKind.i64 1)) (fun v11 w =>
    J [v24, v11] w) w) w) w) w) w) w) w) w) w) w) (fun w =>
      R (vs.headD undef) w) w) w) w) [v5, (Go.Value.int Go.IntKind.i64 0)] w) w
theorem S31.calls (a0 : Value) (R : Value → World → Prop) (w : World) (h : S31 a0 R w) : Calls Try.prog 31 #[a0] w fun e w' => ∃ v, e = .returned v ∧ R v w' :=
  calls_of_tr (n := 26) (c := bodyOf Try.f31) (.two .leaf (.two .leaf (.two (.two .leaf (.one (.loop [3, 4] (.two (.two .leaf (.two .leaf .leaf)) (.two (.one (.draw [(true, 0), (true, 1), (true, 2), (true, 3), (true, 4), (true, 5), (true, 7), (true, 8), (true, 9), (true, 10), (true, 11), (false, 6), (false, 12), (true, 13)])) .leaf))))) (.two .leaf .leaf)))) Try.func31 (by kernel_rfl) Try.ntmps31 (by kernel_rfl) (by kernel_rfl) [a0] (by kernel_rfl) (of_eq_ (by kernel_rfl) h)

/-- shelfmark/shelfmarkref11.Has -/
def S32 (a0 a1 : Value) (R : Value → World → Prop) (w : World) : Prop :=
  LiftP Try.prog (Instr.box 32 a0) (fun v2 w =>
  LiftP Try.prog (Instr.fieldAt 32 v2 0) (fun v6 w =>
  LiftP Try.prog (Instr.loadAt 9 v6) (fun v7 w =>
  LiftP Try.prog (binS Go.BinOp.geq 9 (Go.Operand.tmp 5) (Go.Operand.tmp 7) a1 v7) (fun v8 w =>
  GuardP v8 true (fun K w => LiftP Try.prog (Instr.fieldAt 32 v2 1) K w) (fun v10 w =>
  GuardP v8 true (fun K w => LiftP Try.prog (Instr.loadAt 9 v10) K w) (fun v11 w =>
  GuardP v8 true (fun K w => LiftP Try.prog (binS Go.BinOp.eql 9 (Go.Operand.tmp 11) (Go.Operand.const (Go.Value.string { data := #[] })) v11 (Go.Value.string { data := #[] })) K w) (fun v12 w =>
  GuardP v8 true (fun K w => K v12 w) (fun v13 w =>
  GuardP v13 false (fun K w => K a1 w) (fun v14 w =>
  GuardP v13 false (fun K w => LiftP Try.prog (Instr.fieldAt 32 v2 1) K w) (fun v15 w =>
  GuardP v13 false (fun K w => LiftP Try.prog (Instr.loadAt 9 v15) K w) (fun v16 w =>
  GuardP v13 false (fun K w => LiftP Try.prog (binS Go.BinOp.lss 9 (Go.Operand.tmp 14) (Go.Operand.tmp 16) v14 v16) K w) (fun v17 w =>
  GuardP v8 true (fun K w => PickP v13 (Go.Value.bool true) v17 K w) (fun v18 w =>
  PickP v8 v18 (Go.Value.bool false) (fun v19 w =>
  R v19 w) w) w) w) w) w) w) w) w) w) w) w) w) w) w
theorem S32.calls (a0 a1 : Value) (R : Value → World → Prop) (w : World) (h : S32 a0 a1 R w) : Calls Try.prog 32 #[a0, a1] w fun e w' => ∃ v, e = .returned v ∧ R v w' :=
  calls_of_tr (n := 20) (c := bodyOf Try.f32) (.two .leaf (.two .leaf .leaf)) Try.func32 (by kernel_rfl) Try.ntmps32 (by kernel_rfl) (by kernel_rfl) [a0, a1] (by kernel_rfl) (of_eq_ (by kernel_rfl) h)

/-- shelfmark/shelfmarkref11.In -/
def S33 (a0 a1 : Value) (R : Value → World → Prop) (w : World) : Prop :=
  LoopP (fun J vs w =>   -- [5]
    NextP Try.prog (builtin Go.Builtin.len #[22] 3 #[false] #[a0]) (fun v8 w =>
    LiftP Try.prog (binS Go.BinOp.lss 3 (Go.Operand.tmp 6) (Go.Operand.tmp 8) (vs.headD undef) v8) (fun v9 w =>
    CondP v9 (fun w =>
      LiftP Try.prog (Instr.indexAt 22 a0 (vs.headD undef)) (fun v14 w =>
    LiftP Try.prog (Instr.loadAt 32 v14) (fun v15 w =>
    CallP Try.prog 32 #[v15, a1] (fun v17 w =>
    CondP v17 (fun w =>
      R (Go.Value.bool true) w) (fun w =>
      LiftP Try.prog (binS Go.BinOp.add 3 (Go.Operand.tmp 10) (Go.Operand.const (Go.Value.int Go.IntKind.i64 1)) (vs.headD undef) (Go.Value.int Go.IntKind.i64 1)) (fun v11 w =>
    J [v11] w) w) w) w) w) w) (fun w =>
      R (Go.Value.bool false) w) w) w) w) [(Go.Value.int Go.IntKind.i64 0)] w
theorem S33.calls (a0 a1 : Value) (R : Value → World → Prop) (w : World) (h : S33 a0 a1 R w) : Calls Try.prog 33 #[a0, a1] w fun e w' => ∃ v, e = .returned v ∧ R v w' :=
  calls_of_tr (n := 18) (c := bodyOf Try.f33) (.two .leaf (.two (.two .leaf (.one (.loop [5] (.two (.two .leaf (.two .leaf .leaf)) (.two (.one (.two .leaf (.two (.two .leaf .leaf) .leaf))) .leaf))))) (.two .leaf .leaf))) Try.func33 (by kernel_rfl) Try.ntmps33 (by kernel_rfl) (by kernel_rfl) [a0, a1] (by kernel_rfl) (of_eq_ (by kernel_rfl) h)

/-- shelfmark/shelfmarkref11.Least -/
def S36 (a0 : Value) (R : Value → World → Prop) (w : World) : Prop :=
  CallP Try.prog 31 #[a0] (fun v7 w =>
  LoopP (fun J vs w =>   -- [4, 5]
    NextP Try.prog (builtin Go.Builtin.len #[73] 3 #[false] #[v7]) (fun v10 w =>
    LiftP Try.prog (binS Go.BinOp.lss 3 (Go.Operand.tmp 8) (Go.Operand.tmp 10) (vs.tail.headD undef) v10) (fun v11 w =>
    CondP v11 (fun w =>
      LiftP Try.prog (Instr.indexAt 73 v7 (vs.tail.headD undef)) (fun v18 w =>
    LiftP Try.prog (Instr.loadAt 9 v18) (fun v19 w =>
    CallP Try.prog 33 #[a0, v19] (fun v20 w =>
    LiftP Try.prog (Instr.buildSlice 100 1 #[(0, v20)]) (fun v21 w =>
    NextP Try.prog (builtin Go.Builtin.append #[100, 100] 100 #[false, false] #[(vs.headD undef), v21]) (fun v22 w =>
    LiftP Try.prog (binS Go.BinOp.add 3 (Go.Operand.tmp 12) (Go.Operand.const (Go.Value.int Go.IntKind.i64 1)) (vs.tail.headD undef) (Go.Value.int Go.IntKind.i64 1)) (fun v13 w =>
    J [v22, v13] w) w) w) w) w) w) w) (fun w =>
      CallP Try.prog 58 #[v7, (vs.headD undef)] (fun v25 w =>
  R v25 w) w) w) w) w) [(Go.Value.slice none 0 0), (Go.Value.int Go.IntKind.i64 0)] w) w
theorem S36.calls (a0 : Value) (R : Value → World → Prop) (w : World) (h : S36 a0 R w) : Calls Try.prog 36 #[a0] w fun e w' => ∃ v, e = .returned v ∧ R v w' :=
  calls_of_tr (n := 26) (c := bodyOf Try.f36) (.two .leaf (.two .leaf (.two .leaf (.two (.two .leaf (.one (.loop [4, 5] (.two (.two .leaf (.two .leaf .leaf)) (.two (.one .leaf) .leaf))))) (.two .leaf .leaf))))) Try.func36 (by kernel_rfl) Try.ntmps36 (by kernel_rfl) (by kernel_rfl) [a0] (by kernel_rfl) (of_eq_ (by kernel_rfl) h)

/-- slices.Clone[[]shelfmark/api.Range,shelfmark/api.Range] -/
def S37 (a0 : Value) (R : Value → World → Prop) (w : World) : Prop :=
  LiftP Try.prog (binS Go.BinOp.eql 22 (Go.Operand.tmp 3) (Go.Operand.const (Go.Value.slice none 0 0)) a0 (Go.Value.slice none 0 0)) (fun v4 w =>
  CondP v4 (fun w =>
    R (Go.Value.slice none 0 0) w) (fun w =>
    LiftP Try.prog (Instr.buildSlice 22 0 #[]) (fun v5 w =>
  NextP Try.prog (builtin Go.Builtin.append #[22, 22] 22 #[false, false] #[v5, a0]) (fun v7 w =>
  R v7 w) w) w) w) w
theorem S37.calls (a0 : Value) (R : Value → World → Prop) (w : World) (h : S37 a0 R w) : Calls Try.prog 37 #[a0] w fun e w' => ∃ v, e = .returned v ∧ R v w' :=
  calls_of_tr (n := 8) (c := bodyOf Try.f37) (.two .leaf (.two (.two .leaf (.two (.two .leaf .leaf) .leaf)) (.two .leaf .leaf))) Try.func37 (by kernel_rfl) Try.ntmps37 (by kernel_rfl) (by kernel_rfl) [a0] (by kernel_rfl) (of_eq_ (by kernel_rfl) h)

/-- shelfmark/shelfmarkref11.Same -/
def S42 (a0 a1 : Value) (R : Value → World → Prop) (w : World) : Prop :=
  NextP Try.prog (builtin Go.Builtin.len #[22] 3 #[false] #[a0]) (fun v7 w =>
  NextP Try.prog (builtin Go.Builtin.len #[22] 3 #[false] #[a1]) (fun v9 w =>
  LiftP Try.prog (binS Go.BinOp.neq 3 (Go.Operand.tmp 7) (Go.Operand.tmp 9) v7 v9) (fun v10 w =>
  CondP v10 (fun w =>
    R (Go.Value.bool false) w) (fun w =>
    LoopP (fun J vs w =>   -- [5]
    NextP Try.prog (builtin Go.Builtin.len #[22] 3 #[false] #[a0]) (fun v13 w =>
    LiftP Try.prog (binS Go.BinOp.lss 3 (Go.Operand.tmp 11) (Go.Operand.tmp 13) (vs.headD undef) v13) (fun v14 w =>
    CondP v14 (fun w =>
      DrawP (fun S w =>
    YieldP Try.prog S (Instr.indexAt 22 a0 (vs.headD undef)) (fun v19 w =>
    YieldP Try.prog S (Instr.loadAt 32 v19) (fun v20 w =>
    YieldP Try.prog S (Instr.indexAt 22 a1 (vs.headD undef)) (fun v23 w =>
    YieldP Try.prog S (Instr.loadAt 32 v23) (fun v24 w =>
    YieldP Try.prog S (binS Go.BinOp.neq 32 (Go.Operand.tmp 20) (Go.Operand.tmp 24) v20 v24) (fun v25 w =>
    CondP v25 (fun w =>
      R (Go.Value.bool false) w) (fun w =>
      LiftP Try.prog (binS Go.BinOp.add 3 (Go.Operand.tmp 15) (Go.Operand.const (Go.Value.int Go.IntKind.i64 1)) (vs.headD undef) (Go.Value.int Go.IntKind.i64 1)) (fun v16 w =>
    J [v16] w) w) w) w) w) w) w) w) w) (fun w =>
      R (Go.Value.bool true) w) w) w) w) [(Go.Value.int Go.IntKind.i64 0)] w) w) w) w) w
theorem S42.calls (a0 a1 : Value) (R : Value → World → Prop) (w : World) (h : S42 a0 a1 R w) : Calls Try.prog 42 #[a0, a1] w fun e w' => ∃ v, e = .returned v ∧ R v w' :=
  calls_of_tr (n := 26) (c := bodyOf Try.f42) (.two .leaf (.two (.two .leaf (.two (.two .leaf .leaf) .leaf)) (.two (.two .leaf (.one (.loop [5] (.two (.two .leaf (.two .leaf .leaf)) (.two (.one (.two (.draw [(true, 0), (true, 1), (true, 2), (true, 3), (true, 4), (true, 5), (true, 6), (true, 7), (true, 8)]) (.two (.two .leaf .leaf) .leaf))) .leaf))))) (.two .leaf .leaf)))) Try.func42 (by kernel_rfl) Try.ntmps42 (by kernel_rfl) (by kernel_rfl) [a0, a1] (by kernel_rfl) (of_eq_ (by kernel_rfl) h)

/-- shelfmark/span.Least -/
def S47 (a0 : Value) (R : Value → World → Prop) (w : World) : Prop :=
  CallP Try.prog 37 #[a0] (fun v9 w =>
  CallP Try.prog 62 #[v9, (.func (.func 55) #[] #[])] (fun v10 w =>
  CallP Try.prog 63 #[v10, (.func (.func 64) #[] #[])] (fun v12 w =>
  NextP Try.prog (builtin Go.Builtin.len #[22] 3 #[false] #[v10]) (fun v14 w =>
  LoopP (fun J vs w =>   -- [4, 15]
    LiftP Try.prog (binS Go.BinOp.lss 3 (Go.Operand.tmp 15) (Go.Operand.tmp 14) (vs.tail.headD undef) v14) (fun v16 w =>
    CondP v16 (fun w =>
      JoinP (fun J_1 w =>
      LiftP Try.prog (Instr.indexAt 22 v10 (vs.tail.headD undef)) (fun v17 w =>
      LiftP Try.prog (Instr.loadAt 32 v17) (fun v18 w =>
      LiftP Try.prog (Instr.alloc 32 true (.tuple #[])) (fun v6 w =>
      LiftU Try.prog (Instr.storeAt 32 v6 v18) (fun v_ w =>
      NextP Try.prog (builtin Go.Builtin.len #[22] 3 #[false] #[(vs.headD undef)]) (fun v20 w =>
      DrawP (fun S w =>
      YieldP Try.prog S (binS Go.BinOp.gtr 3 (Go.Operand.tmp 21) (Go.Operand.const (Go.Value.int Go.IntKind.i64 0)) v20 (Go.Value.int Go.IntKind.i64 0)) (fun v22 w =>
      GuardP v22 true (fun K w => K (vs.headD undef) w) (fun v24 w =>
      GuardP v22 true (fun K w => K v20 w) (fun v25 w =>
      GuardP v22 true (fun K w => YieldP Try.prog S (binS Go.BinOp.sub 3 (Go.Operand.tmp 25) (Go.Operand.const (Go.Value.int Go.IntKind.i64 1)) v25 (Go.Value.int Go.IntKind.i64 1)) K w) (fun v26 w =>
      GuardP v22 true (fun K w => YieldP Try.prog S (Instr.indexAt 22 v24 v26) K w) (fun v27 w =>
      GuardP v22 true (fun K w => YieldP Try.prog S (Instr.fieldAt 32 v27 1) K w) (fun v28 w =>
      GuardP v22 true (fun K w => YieldP Try.prog S (Instr.loadAt 9 v28) K w) (fun v29 w =>
      GuardP v22 true (fun K w => YieldP Try.prog S (binS Go.BinOp.eql 9 (Go.Operand.tmp 29) (Go.Operand.const (Go.Value.string { data := #[] })) v29 (Go.Value.string { data := #[] })) K w) (fun v30 w =>
      GuardP v22 true (fun K w => K v30 w) (fun v31 w =>
      GuardP v31 false (fun K w => YieldP Try.prog S (Instr.fieldAt 32 v6 0) K w) (fun v32 w =>
      GuardP v31 false (fun K w => YieldP Try.prog S (Instr.loadAt 9 v32) K w) (fun v33 w =>
      GuardP v31 false (fun K w => K (vs.headD undef) w) (fun v34 w =>
      GuardP v31 false (fun K w => K v20 w) (fun v35 w =>
      GuardP v31 false (fun K w => YieldP Try.prog S (binS Go.BinOp.sub 3 (Go.Operand.tmp 35) (Go.Operand.const (Go.Value.int Go.IntKind.i64 1)) v35 (Go.Value.int Go.IntKind.i64 1)) K w) (fun v36 w =>
      GuardP v31 false (fun K w => YieldP Try.prog S (Instr.indexAt 22 v34 v36) K w) (fun v37 w =>
      GuardP v31 false (fun K w => YieldP Try.prog S (Instr.fieldAt 32 v37 1) K w) (fun v38 w =>
      GuardP v31 false (fun K w => YieldP Try.prog S (Instr.loadAt 9 v38) K w) (fun v39 w =>
      GuardP v31 false (fun K w => YieldP Try.prog S (binS Go.BinOp.leq 9 (Go.Operand.tmp 33) (Go.Operand.tmp 39) v33 v39) K w) (fun v40 w =>
      GuardP v22 true (fun K w => PickP v31 (Go.Value.bool true) v40 K w) (fun v41 w =>
      PickP v22 v41 (Go.Value.bool false) (fun v42 w =>
      CondP v42 (fun w =>
        JoinP (fun J_2 w =>
          DrawP (fun S w =>
          YieldP Try.prog S (binS Go.BinOp.sub 3 (Go.Operand.tmp 44) (Go.Operand.const (Go.Value.int Go.IntKind.i64 1)) v20 (Go.Value.int Go.IntKind.i64 1)) (fun v45 w =>
          YieldP Try.prog S (Instr.indexAt 22 (vs.headD undef) v45) (fun v46 w =>
          YieldP Try.prog S (Instr.fieldAt 32 v46 1) (fun v47 w =>
          YieldP Try.prog S (Instr.loadAt 9 v47) (fun v48 w =>
          YieldP Try.prog S (binS Go.BinOp.neq 9 (Go.Operand.tmp 48) (Go.Operand.const (Go.Value.string { data := #[] })) v48 (Go.Value.string { data := #[] })) (fun v49 w =>
          GuardP v49 true (fun K w => YieldP Try.prog S (Instr.fieldAt 32 v6 1) K w) (fun v51 w =>
          GuardP v49 true (fun K w => YieldP Try.prog S (Instr.loadAt 9 v51) K w) (fun v52 w =>
          GuardP v49 true (fun K w => YieldP Try.prog S (binS Go.BinOp.eql 9 (Go.Operand.tmp 52) (Go.Operand.const (Go.Value.string { data := #[] })) v52 (Go.Value.string { data := #[] })) K w) (fun v53 w =>
          GuardP v49 true (fun K w => K v53 w) (fun v54 w =>
          GuardP v54 false (fun K w => YieldP Try.prog S (Instr.fieldAt 32 v6 1) K w) (fun v55 w =>
          GuardP v54 false (fun K w => YieldP Try.prog S (Instr.loadAt 9 v55) K w) (fun v56 w =>
          GuardP v54 false (fun K w => K (vs.headD undef) w) (fun v57 w =>
          GuardP v54 false (fun K w => K v20 w) (fun v58 w =>
          GuardP v54 false (fun K w => YieldP Try.prog S (binS Go.BinOp.sub 3 (Go.Operand.tmp 58) (Go.Operand.const (Go.Value.int Go.IntKind.i64 1)) v58 (Go.Value.int Go.IntKind.i64 1)) K w) (fun v59 w =>
          GuardP v54 false (fun K w => YieldP Try.prog S (Instr.indexAt 22 v57 v59) K w) (fun v60 w =>
          GuardP v54 false (fun K w => YieldP Try.prog S (Instr.fieldAt 32 v60 1) K w) (fun v61 w =>
          GuardP v54 false (fun K w => YieldP Try.prog S (Instr.loadAt 9 v61) K w) (fun v62 w =>
          GuardP v54 false (fun K w => YieldP Try.prog S (binS Go.BinOp.gtr 9 (Go.Operand.tmp 56) (Go.Operand.tmp 62) v56 v62) K w) (fun v63 w =>
          GuardP v49 true (fun K w => PickP v54 (Go.Value.bool true) v63 K w) (fun v64 w =>
          PickP v49 v64 (Go.Value.bool false) (fun v65 w =>
          CondP v65 (fun w =>
            LiftP Try.prog (binS Go.BinOp.sub 3 (Go.Operand.tmp 67) (Go.Operand.const (Go.Value.int Go.IntKind.i64 1)) v20 (Go.Value.int Go.IntKind.i64 1)) (fun v68 w =>
            LiftP Try.prog (Instr.fieldAt 32 v6 1) (fun v69 w =>
            LiftP Try.prog (Instr.loadAt 9 v69) (fun v70 w =>
            LiftP Try.prog (Instr.indexAt 22 (vs.headD undef) v68) (fun v71 w =>
            LiftP Try.prog (Instr.fieldAt 32 v71 1) (fun v72 w =>
            LiftU Try.prog (Instr.storeAt 9 v72 v70) (fun v__1 w =>
            J_2 [] w) w) w) w) w) w) w) (fun w =>
            J_2 [] w) w) w) w) w) w) w) w) w) w) w) w) w) w) w) w) w) w) w) w) w) w) w) (fun vs_2 w =>   -- []
        J_1 [(vs.headD undef)] w) w) (fun w =>
        LiftP Try.prog (Instr.loadAt 32 v6) (fun v74 w =>
      LiftP Try.prog (Instr.buildSlice 22 1 #[(0, v74)]) (fun v75 w =>
      NextP Try.prog (builtin Go.Builtin.append #[22, 22] 22 #[false, false] #[(vs.headD undef), v75]) (fun v76 w =>
      J_1 [v76] w) w) w) w) w) w) w) w) w) w) w) w) w) w) w) w) w) w) w) w) w) w) w) w) w) w) w) w) w) w) w) (fun vs_1 w =>   -- [4]
    LiftP Try.prog (binS Go.BinOp.add 3 (Go.Operand.tmp 15) (Go.Operand.const (Go.Value.int Go.IntKind.i64 1)) (vs.tail.headD undef) (Go.Value.int Go.IntKind.i64 1)) (fun v77 w =>
    J [(vs_1.headD undef), v77] w) w) w) (fun w =>
      R (vs.headD undef) w) w) w) [(Go.Value.slice none 0 0), (Go.Value.int Go.IntKind.i64 0)] w) w) w) w) w
theorem S47.calls (a0 : Value) (R : Value → World → Prop) (w : World) (h : S47 a0 R w) : Calls Try.prog 47 #[a0] w fun e w' => ∃ v, e = .returned v ∧ R v w' :=
  calls_of_tr (n := 79) (c := bodyOf Try.f47) (.two .leaf (.two .leaf (.two .leaf (.two .leaf (.two (.two .leaf (.one (.loop [4, 15] (.two .leaf (.two (.two .leaf .leaf) (.join [4] (.one (.two .leaf (.two (.two .leaf (.two (.draw [(true, 0), (true, 1), (true, 2), (true, 3), (true, 4), (true, 5), (true, 6), (true, 7), (true, 8), (true, 9), (true, 10), (true, 11), (true, 12), (true, 13), (true, 14), (true, 15), (true, 16), (true, 17), (true, 18), (true, 19), (true, 20), (true, 21)]) (.two (.join [] (.two (.draw [(true, 0), (true, 1), (true, 2), (true, 3), (true, 4), (true, 5), (true, 6), (true, 7), (true, 8), (true, 9), (true, 10), (true, 11), (true, 12), (true, 13), (true, 14), (true, 15), (true, 16), (true, 17), (true, 18), (true, 19), (true, 20), (true, 21), (true, 22)]) (.two .leaf .leaf)) .leaf) .leaf))) .leaf))) .leaf)))))) (.two .leaf .leaf)))))) Try.func47 (by kernel_rfl) Try.ntmps47 (by kernel_rfl) (by kernel_rfl) [a0] (by kernel_rfl) (of_eq_ (by kernel_rfl) h)

/-- shelfmark/span.Empty -/
def S55 (a0 : Value) (R : Value → World → Prop) (w : World) : Prop :=
  LiftP Try.prog (Instr.box 32 a0) (fun v1 w =>
  LiftP Try.prog (Instr.fieldAt 32 v1 1) (fun v3 w =>
  LiftP Try.prog (Instr.loadAt 9 v3) (fun v4 w =>
  LiftP Try.prog (binS Go.BinOp.neq 9 (Go.Operand.tmp 4) (Go.Operand.const (Go.Value.string { data := #[] })) v4 (Go.Value.string { data := #[] })) (fun v5 w =>
  GuardP v5 true (fun K w => LiftP Try.prog (Instr.fieldAt 32 v1 1) K w) (fun v7 w =>
  GuardP v5 true (fun K w => LiftP Try.prog (Instr.loadAt 9 v7) K w) (fun v8 w =>
  GuardP v5 true (fun K w => LiftP Try.prog (Instr.fieldAt 32 v1 0) K w) (fun v9 w =>
  GuardP v5 true (fun K w => LiftP Try.prog (Instr.loadAt 9 v9) K w) (fun v10 w =>
  GuardP v5 true (fun K w => LiftP Try.prog (binS Go.BinOp.leq 9 (Go.Operand.tmp 8) (Go.Operand.tmp 10) v8 v10) K w) (fun v11 w =>
  PickP v5 v11 (Go.Value.bool false) (fun v12 w =>
  R v12 w) w) w) w) w) w) w) w) w) w) w
theorem S55.calls (a0 : Value) (R : Value → World → Prop) (w : World) (h : S55 a0 R w) : Calls Try.prog 55 #[a0] w fun e w' => ∃ v, e = .returned v ∧ R v w' :=
  calls_of_tr (n := 13) (c := bodyOf Try.f55) (.two .leaf (.two .leaf .leaf)) Try.func55 (by kernel_rfl) Try.ntmps55 (by kernel_rfl) (by kernel_rfl) [a0] (by kernel_rfl) (of_eq_ (by kernel_rfl) h)

/-- shelfmark/span.Meet -/
def S56 (a0 a1 : Value) (R : Value → World → Prop) (w : World) : Prop :=
  LiftP Try.prog (Instr.box 32 a0) (fun v2 w =>
  LiftP Try.prog (Instr.box 32 a1) (fun v3 w =>
  LiftP Try.prog (Instr.alloc 32 true (.tuple #[])) (fun v4 w =>
  JoinP (fun J w =>
    DrawP (fun S w =>
    YieldP Try.prog S (Instr.fieldAt 32 v2 0) (fun v7 w =>
    YieldP Try.prog S (Instr.loadAt 9 v7) (fun v8 w =>
    YieldP Try.prog S (Instr.fieldAt 32 v3 0) (fun v9 w =>
    YieldP Try.prog S (Instr.loadAt 9 v9) (fun v10 w =>
    YieldN Try.prog S (builtin Go.Builtin.max #[9, 9] 9 #[false, false] #[v8, v10]) (fun v11 w =>
    YieldP Try.prog S (Instr.fieldAt 32 v2 1) (fun v12 w =>
    YieldP Try.prog S (Instr.loadAt 9 v12) (fun v13 w =>
    YieldP Try.prog S (Instr.fieldAt 32 v3 1) (fun v14 w =>
    YieldP Try.prog S (Instr.loadAt 9 v14) (fun v15 w =>
    BothP (fun w =>
    ActP S (fun K w => CallP Try.prog 69 #[v13, v15] K w) (fun S v16_1 w =>
    BothP (fun w =>
    ActP S (fun K w => LiftP Try.prog (Instr.build 32 #[(0, v11), (1, v16_1)]) K w) (fun S v17_2 w =>
    ActP S (fun K w => LiftP Try.prog (Instr.alloc 32 true (.tuple #[])) K w) (fun S v6_2 w =>
    ActP S (fun K w => LiftU Try.prog (Instr.storeAt 32 v6_2 v17_2) K w) (fun S v__2 w =>
    J [v6_2] w) w) w) w) (fun w =>
    BothP (fun w =>
    ActP S (fun K w => LiftP Try.prog (Instr.alloc 32 true (.tuple #[])) K w) (fun S v6_1 w =>
    ActP S (fun K w => LiftP Try.prog (Instr.build 32 #[(0, v11), (1, v16_1)]) K w) (fun S v17_1 w =>
    ActP S (fun K w => LiftU Try.prog (Instr.storeAt 32 v6_1 v17_1) K w) (fun S v__1 w =>
    J [v6_1] w) w) w) w) (fun w =>
    True) w) w) w) (fun w =>
    BothP (fun w =>
    ActP S (fun K w => LiftP Try.prog (Instr.alloc 32 true (.tuple #[])) K w) (fun S v6 w =>
    ActP S (fun K w => CallP Try.prog 69 #[v13, v15] K w) (fun S v16 w =>
    ActP S (fun K w => LiftP Try.prog (Instr.build 32 #[(0, v11), (1, v16)]) K w) (fun S v17 w =>
    ActP S (fun K w => LiftU Try.prog (Instr.storeAt 32 v6 v17) K w) (fun S v_ w =>
    J [v6] w) w) w) w) w) (fun w =>
    True) w) w) w) w) w) w) w) w) w) w) w) w) (fun vs w =>   -- [6]
  LiftP Try.prog (Instr.loadAt 32 v2) (fun v18 w =>
  CallP Try.prog 55 #[v18] (fun v19 w =>
  GuardP v19 false (fun K w => LiftP Try.prog (Instr.loadAt 32 v3) K w) (fun v21 w =>
  GuardP v19 false (fun K w => CallP Try.prog 55 #[v21] K w) (fun v22 w =>
  PickP v19 (Go.Value.bool true) v22 (fun v23 w =>
  GuardP v23 false (fun K w => LiftP Try.prog (Instr.loadAt 32 (vs.headD undef)) K w) (fun v25 w =>
  GuardP v23 false (fun K w => CallP Try.prog 55 #[v25] K w) (fun v26 w =>
  PickP v23 (Go.Value.bool true) v26 (fun v27 w =>
  CondP v27 (fun w =>
    LiftP Try.prog (Instr.build 32 #[]) (fun v28 w =>
    LiftU Try.prog (Instr.storeAt 32 v4 v28) (fun v__3 w =>
    RetC Try.prog v4 32 (fun x => R (.tuple #[x, (Go.Value.bool false)]) w) w) w) w) (fun w =>
    LiftP Try.prog (Instr.loadAt 32 (vs.headD undef)) (fun v29 w =>
  LiftU Try.prog (Instr.storeAt 32 v4 v29) (fun v__4 w =>
  RetC Try.prog v4 32 (fun x_1 => R (.tuple #[x_1, (Go.Value.bool true)]) w) w) w) w) w) w) w) w) w) w) w) w) w) w) w) w) w
theorem S56.calls (a0 a1 : Value) (R : Value → World → Prop) (w : World) (h : S56 a0 a1 R w) : Calls Try.prog 56 #[a0, a1] w fun e w' => ∃ v, e = .returned v ∧ R v w' :=
  calls_of_tr (n := 30) (c := bodyOf Try.f56) (.two .leaf (.join [6] (.drawT (.rd 0 (.rd 1 (.rd 2 (.rd 3 (.rd 4 (.rd 5 (.rd 6 (.rd 7 (.rd 8 (.alt 9 (.alt 10 (.act 11 (.act 12 .done)) (.alt 11 (.act 10 (.act 12 .done)) .done)) (.alt 11 (.act 9 (.act 10 (.act 12 .done))) .done)))))))))))) (.two (.two .leaf (.two (.two .leaf .leaf) .leaf)) (.two .leaf .leaf)))) Try.func56 (by kernel_rfl) Try.ntmps56 (by kernel_rfl) (by kernel_rfl) [a0, a1] (by kernel_rfl) (of_eq_ (by kernel_rfl) h)

/-- shelfmark/shelfmarkref11.put -/
def S57 (a0 a1 : Value) (R : Value → World → Prop) (w : World) : Prop :=
  LoopP (fun J vs w =>   -- [5, 6]
    NextP Try.prog (builtin Go.Builtin.len #[73] 3 #[false] #[a0]) (fun v9 w =>
    LiftP Try.prog (binS Go.BinOp.lss 3 (Go.Operand.tmp 7) (Go.Operand.tmp 9) (vs.tail.headD undef) v9) (fun v10 w =>
    GuardP v10 true (fun K w => K a0 w) (fun v12 w =>
    GuardP v10 true (fun K w => K (vs.tail.headD undef) w) (fun v13 w =>
    GuardP v10 true (fun K w => LiftP Try.prog (Instr.indexAt 73 v12 v13) K w) (fun v14 w =>
    GuardP v10 true (fun K w => LiftP Try.prog (Instr.loadAt 9 v14) K w) (fun v15 w =>
    GuardP v10 true (fun K w => K a1 w) (fun v16 w =>
    GuardP v10 true (fun K w => LiftP Try.prog (binS Go.BinOp.lss 9 (Go.Operand.tmp 15) (Go.Operand.tmp 16) v15 v16) K w) (fun v17 w =>
    PickP v10 v17 (Go.Value.bool false) (fun v18 w =>
    CondP v18 (fun w =>
      LiftP Try.prog (Instr.indexAt 73 a0 (vs.tail.headD undef)) (fun v22 w =>
    LiftP Try.prog (Instr.loadAt 9 v22) (fun v23 w =>
    LiftP Try.prog (Instr.buildSlice 73 1 #[(0, v23)]) (fun v24 w =>
    NextP Try.prog (builtin Go.Builtin.append #[73, 73] 73 #[false, false] #[(vs.headD undef), v24]) (fun v25 w =>
    LiftP Try.prog (binS Go.BinOp.add 3 (Go.Operand.tmp 26) (Go.Operand.const (Go.Value.int Go.IntKind.i64 1)) (vs.tail.headD undef) (Go.Value.int Go.IntKind.i64 1)) (fun v27 w =>
    J [v25, v27] w) w) w) w) w) w) (fun w =>
      LiftP Try.prog (Instr.buildSlice 73 1 #[(0, a1)]) (fun v30 w =>
  NextP Try.prog (builtin Go.Builtin.append #[73, 73] 73 #[false, false] #[(vs.headD undef), v30]) (fun v31 w =>
  JoinP (fun J_1 w =>
    NextP Try.prog (builtin Go.Builtin.len #[73] 3 #[false] #[a0]) (fun v34 w =>
    LiftP Try.prog (binS Go.BinOp.lss 3 (Go.Operand.tmp 32) (Go.Operand.tmp 34) (vs.tail.headD undef) v34) (fun v35 w =>
    GuardP v35 true (fun K w => K a0 w) (fun v37 w =>
    GuardP v35 true (fun K w => K (vs.tail.headD undef) w) (fun v38 w =>
    GuardP v35 true (fun K w => LiftP Try.prog (Instr.indexAt 73 v37 v38) K w) (fun v39 w =>
    GuardP v35 true (fun K w => LiftP Try.prog (Instr.loadAt 9 v39) K w) (fun v40 w =>
    GuardP v35 true (fun K w => K a1 w) (fun v41 w =>
    GuardP v35 true (fun K w => LiftP Try.prog (binS Go.BinOp.eql 9 (Go.Operand.tmp 40) (Go.Operand.tmp 41) v40 v41) K w) (fun v42 w =>
    PickP v35 v42 (Go.Value.bool false) (fun v43 w =>
    CondP v43 (fun w =>
      LiftP Try.prog (binS Go.BinOp.add 3 (Go.Operand.tmp 44) (Go.Operand.const (Go.Value.int Go.IntKind.i64 1)) (vs.tail.headD undef) (Go.Value.int Go.IntKind.i64 1)) (fun v45 w =>
      J_1 [v45] w) w) (fun w =>
      J_1 [(vs.tail.headD undef)] w) w) w) w) w) w) w) w) w) w) w) (fun vs_1 w =>   -- [6]
  LiftP Try.prog (Instr.sliceAt 73 a0 (some (vs_1.headD undef)) none none) (fun v49 w =>
  NextP Try.prog (builtin Go.Builtin.append #[73, 73] 73 #[false, false] #[v31, v49]) (fun v50 w =>
  R v50 w) w) w) w) w) w) w) w) w) w) w) w) w) w) w) w) [(Go.Value.slice none 0 0), (Go.Value.int Go.IntKind.i64 0)] w
theorem S57.calls (a0 a1 : Value) (R : Value → World → Prop) (w : World) (h : S57 a0 a1 R w) : Calls Try.prog 57 #[a0, a1] w fun e w' => ∃ v, e = .returned v ∧ R v w' :=
  calls_of_tr (n := 51) (c := bodyOf Try.f57) (.two .leaf (.two .leaf (.two .leaf (.two (.one (.loop [5, 6] (.two (.two .leaf (.two .leaf .leaf)) (.one (.two .leaf .leaf))))) (.two .leaf (.join [6] (.two .leaf (.two .leaf .leaf)) (.two .leaf .leaf))))))) Try.func57 (by kernel_rfl) Try.ntmps57 (by kernel_rfl) (by kernel_rfl) [a0, a1] (by kernel_rfl) (of_eq_ (by kernel_rfl) h)

/-- shelfmark/shelfmarkref11.form -/
def S58 (a0 a1 : Value) (R : Value → World → Prop) (w : World) : Prop :=
  LoopP (fun J vs w =>   -- [5, 6]
    NextP Try.prog (builtin Go.Builtin.len #[73] 3 #[false] #[a0]) (fun v10 w =>
    LiftP Try.prog (binS Go.BinOp.lss 3 (Go.Operand.tmp 8) (Go.Operand.tmp 10) (vs.tail.headD undef) v10) (fun v11 w =>
    CondP v11 (fun w =>
      JoinP (fun J_1 w =>
      LiftP Try.prog (Instr.indexAt 100 a1 (vs.tail.headD undef)) (fun v16 w =>
      LiftP Try.prog (Instr.loadAt 4 v16) (fun v17 w =>
      LiftP Try.prog (Op.unary Go.UnOp.not v17) (fun v18 w =>
      CondP v18 (fun w =>
        J_1 [(vs.headD undef)] w) (fun w =>
        JoinP (fun J_2 w =>
        LiftP Try.prog (binS Go.BinOp.add 3 (Go.Operand.tmp 19) (Go.Operand.const (Go.Value.int Go.IntKind.i64 1)) (vs.tail.headD undef) (Go.Value.int Go.IntKind.i64 1)) (fun v20 w =>
        NextP Try.prog (builtin Go.Builtin.len #[73] 3 #[false] #[a0]) (fun v22 w =>
        LiftP Try.prog (binS Go.BinOp.lss 3 (Go.Operand.tmp 20) (Go.Operand.tmp 22) v20 v22) (fun v23 w =>
        CondP v23 (fun w =>
          LiftP Try.prog (binS Go.BinOp.add 3 (Go.Operand.tmp 25) (Go.Operand.const (Go.Value.int Go.IntKind.i64 1)) (vs.tail.headD undef) (Go.Value.int Go.IntKind.i64 1)) (fun v26 w =>
          LiftP Try.prog (Instr.indexAt 73 a0 v26) (fun v27 w =>
          LiftP Try.prog (Instr.loadAt 9 v27) (fun v28 w =>
          J_2 [v28] w) w) w) w) (fun w =>
          J_2 [(Go.Value.string { data := #[] })] w) w) w) w) w) (fun vs_2 w =>   -- [7]
      LiftP Try.prog (binS Go.BinOp.gtr 3 (Go.Operand.tmp 29) (Go.Operand.const (Go.Value.int Go.IntKind.i64 0)) (vs.tail.headD undef) (Go.Value.int Go.IntKind.i64 0)) (fun v30 w =>
      GuardP v30 true (fun K w => K a1 w) (fun v32 w =>
      GuardP v30 true (fun K w => K (vs.tail.headD undef) w) (fun v33 w =>
      GuardP v30 true (fun K w => LiftP Try.prog (binS Go.BinOp.sub 3 (Go.Operand.tmp 33) (Go.Operand.const (Go.Value.int Go.IntKind.i64 1)) v33 (Go.Value.int Go.IntKind.i64 1)) K w) (fun v34 w =>
      GuardP v30 true (fun K w => LiftP Try.prog (Instr.indexAt 100 v32 v34) K w) (fun v35 w =>
      GuardP v30 true (fun K w => LiftP Try.prog (Instr.loadAt 4 v35) K w) (fun v36 w =>
      PickP v30 v36 (Go.Value.bool false) (fun v37 w =>
      CondP v37 (fun w =>
        NextP Try.prog (builtin Go.Builtin.len #[22] 3 #[false] #[(vs.headD undef)]) (fun v40 w =>
        LiftP Try.prog (binS Go.BinOp.sub 3 (Go.Operand.tmp 40) (Go.Operand.const (Go.Value.int Go.IntKind.i64 1)) v40 (Go.Value.int Go.IntKind.i64 1)) (fun v41 w =>
        LiftP Try.prog (Instr.indexAt 22 (vs.headD undef) v41) (fun v43 w =>
        LiftP Try.prog (Instr.fieldAt 32 v43 1) (fun v44 w =>
        LiftU Try.prog (Instr.storeAt 9 v44 (vs_2.headD undef)) (fun v_ w =>
        J_1 [(vs.headD undef)] w) w) w) w) w) w) (fun w =>
        LiftP Try.prog (Instr.indexAt 73 a0 (vs.tail.headD undef)) (fun v48 w =>
        LiftP Try.prog (Instr.loadAt 9 v48) (fun v49 w =>
        LiftP Try.prog (Instr.build 32 #[(0, v49), (1, (vs_2.headD undef))]) (fun v51 w =>
        LiftP Try.prog (Instr.buildSlice 22 1 #[(0, v51)]) (fun v52 w =>
        NextP Try.prog (builtin Go.Builtin.append #[22, 22] 22 #[false, false] #[(vs.headD undef), v52]) (fun v53 w =>
        J_1 [v53] w) w) w) w) w) w) w) w) w) w) w) w) w) w) w) w) w) w) w) (fun vs_1 w =>   -- [5]
    LiftP Try.prog (binS Go.BinOp.add 3 (Go.Operand.tmp 12) (Go.Operand.const (Go.Value.int Go.IntKind.i64 1)) (vs.tail.headD undef) (Go.Value.int Go.IntKind.i64 1)) (fun v13 w =>
    J [(vs_1.headD undef), v13] w) w) w) (fun w =>
      R (vs.headD undef) w) w) w) w) [(Go.Value.slice none 0 0), (Go.Value.int Go.IntKind.i64 0)] w
theorem S58.calls (a0 a1 : Value) (R : Value → World → Prop) (w : World) (h : S58 a0 a1 R w) : Calls Try.prog 58 #[a0, a1] w fun e w' => ∃ v, e = .returned v ∧ R v w' :=
  calls_of_tr (n := 55) (c := bodyOf Try.f58) (.two .leaf (.two .leaf (.two (.two .leaf (.one (.loop [5, 6] (.two (.two .leaf (.two .leaf .leaf)) (.join [5] (.one (.two (.two .leaf (.two .leaf .leaf)) (.two .leaf (.join [7] (.two .leaf (.two .leaf .leaf)) (.two .leaf (.two .leaf .leaf)))))) .leaf))))) (.two .leaf .leaf)))) Try.func58 (by kernel_rfl) Try.ntmps58 (by kernel_rfl) (by kernel_rfl) [a0, a1] (by kernel_rfl) (of_eq_ (by kernel_rfl) h)

/-- shelfmark/shelfmarkref11.Minus -/
def S59 (a0 a1 : Value) (R : Value → World → Prop) (w : World) : Prop :=
  LiftP Try.prog (Instr.box 32 a1) (fun v3 w =>
  NextP Try.prog (builtin Go.Builtin.append #[22, 22] 22 #[false, false] #[(Go.Value.slice none 0 0), a0]) (fun v11 w =>
  LiftP Try.prog (Instr.loadAt 32 v3) (fun v13 w =>
  LiftP Try.prog (Instr.buildSlice 22 1 #[(0, v13)]) (fun v14 w =>
  NextP Try.prog (builtin Go.Builtin.append #[22, 22] 22 #[false, false] #[v11, v14]) (fun v15 w =>
  CallP Try.prog 31 #[v15] (fun v17 w =>
  LoopP (fun J vs w =>   -- [7, 8]
    NextP Try.prog (builtin Go.Builtin.len #[73] 3 #[false] #[v17]) (fun v20 w =>
    LiftP Try.prog (binS Go.BinOp.lss 3 (Go.Operand.tmp 18) (Go.Operand.tmp 20) (vs.tail.headD undef) v20) (fun v21 w =>
    CondP v21 (fun w =>
      DrawP (fun S w =>
    YieldP Try.prog S (Instr.indexAt 73 v17 (vs.tail.headD undef)) (fun v28 w =>
    YieldP Try.prog S (Instr.loadAt 9 v28) (fun v29 w =>
    ActP S (fun K w => CallP Try.prog 33 #[a0, v29] K w) (fun S v30 w =>
    GuardP v30 true (fun K w => YieldP Try.prog S (Instr.loadAt 32 v3) K w) (fun v32 w =>
    GuardP v30 true (fun K w => K v17 w) (fun v33 w =>
    GuardP v30 true (fun K w => K (vs.tail.headD undef) w) (fun v34 w =>
    GuardP v30 true (fun K w => YieldP Try.prog S (Instr.indexAt 73 v33 v34) K w) (fun v35 w =>
    GuardP v30 true (fun K w => YieldP Try.prog S (Instr.loadAt 9 v35) K w) (fun v36 w =>
    GuardA v30 true S (fun K w => CallP Try.prog 32 #[v32, v36] K w) (fun S v37 w =>
    GuardP v30 true (fun K w => YieldP Try.prog S (Op.unary Go.UnOp.not v37) K w) (fun v38 w =>
    PickP v30 v38 (Go.Value.bool false) (fun v39 w =>
    ActP S (fun K w => LiftP Try.prog (Instr.buildSlice 100 1 #[(0, v39)]) K w) (fun S v40 w =>
    ActP S (fun K w => NextP Try.prog (builtin Go.Builtin.append #[100, 100] 100 #[false, false] #[(vs.headD undef), v40]) K w) (fun S v41 w =>
    LiftP Try.prog (binS Go.BinOp.add 3 (Go.Operand.tmp 22) (Go.Operand.const (Go.Value.int Go.IntKind.i64 1)) (vs.tail.headD undef) (Go.Value.int Go.IntKind.i64 1)) (fun v23 w =>
    J [v41, v23] w) w) w) w) w) w) w) w) w) w) w) w) w) w) w) w) (fun w =>
      CallP Try.prog 58 #[v17, (vs.headD undef)] (fun v44 w =>
  R v44 w) w) w) w) w) [(Go.Value.slice none 0 0), (Go.Value.int Go.IntKind.i64 0)] w) w) w) w) w) w) w
theorem S59.calls (a0 a1 : Value) (R : Value → World → Prop) (w : World) (h : S59 a0 a1 R w) : Calls Try.prog 59 #[a0, a1] w fun e w' => ∃ v, e = .returned v ∧ R v w' :=
  calls_of_tr (n := 45) (c := bodyOf Try.f59) (.two .leaf (.two .leaf (.two .leaf (.two .leaf (.two .leaf (.two .leaf (.two (.two .leaf (.one (.loop [7, 8] (.two (.two .leaf (.two .leaf .leaf)) (.two (.one (.draw [(true, 0), (true, 1), (true, 2), (true, 3), (true, 4), (true, 5), (false, 6), (true, 7), (true, 8), (true, 9), (true, 10), (true, 11), (true, 12), (false, 13), (true, 14), (true, 15), (false, 16), (false, 17), (true, 18)])) .leaf))))) (.two .leaf .leaf)))))))) Try.func59 (by kernel_rfl) Try.ntmps59 (by kernel_rfl) (by kernel_rfl) [a0, a1] (by kernel_rfl) (of_eq_ (by kernel_rfl) h)

/-- slices.DeleteFunc[[]shelfmark/api.Range,shelfmark/api.Range] -/
def S62 (a0 a1 : Value) (R : Value → World → Prop) (w : World) : Prop :=
  CallP Try.prog 71 #[a0, a1] (fun v10 w =>
  LiftP Try.prog (binS Go.BinOp.eql 3 (Go.Operand.tmp 11) (Go.Operand.const (Go.Value.int Go.IntKind.i64 (-1))) v10 (Go.Value.int Go.IntKind.i64 (-1))) (fun v12 w =>
  CondP v12 (fun w =>
    R a0 w) (fun w =>
    LiftP Try.prog (binS Go.BinOp.add 3 (Go.Operand.tmp 14) (Go.Operand.const (Go.Value.int Go.IntKind.i64 1)) v10 (Go.Value.int Go.IntKind.i64 1)) (fun v15 w =>
  LoopP (fun J vs w =>   -- [5, 6]
    NextP Try.prog (builtin Go.Builtin.len #[22] 3 #[false] #[a0]) (fun v18 w =>
    LiftP Try.prog (binS Go.BinOp.lss 3 (Go.Operand.tmp 16) (Go.Operand.tmp 18) (vs.tail.headD undef) v18) (fun v19 w =>
    CondP v19 (fun w =>
      JoinP (fun J_1 w =>
      LiftP Try.prog (Instr.indexAt 22 a0 (vs.tail.headD undef)) (fun v24 w =>
      LiftP Try.prog (Instr.loadAt 32 v24) (fun v25 w =>
      LiftP Try.prog (Instr.alloc 32 true (.tuple #[])) (fun v7 w =>
      LiftU Try.prog (Instr.storeAt 32 v7 v25) (fun v_ w =>
      LiftP Try.prog (Instr.loadAt 32 v7) (fun v27 w =>
      NextP Try.prog (callV a1 #[v27]) (fun v28 w =>
      LiftP Try.prog (Op.unary Go.UnOp.not v28) (fun v29 w =>
      CondP v29 (fun w =>
        LiftP Try.prog (Instr.loadAt 32 v7) (fun v32 w =>
        LiftP Try.prog (Instr.indexAt 22 a0 (vs.headD undef)) (fun v33 w =>
        LiftU Try.prog (Instr.storeAt 32 v33 v32) (fun v__1 w =>
        LiftP Try.prog (binS Go.BinOp.add 3 (Go.Operand.tmp 34) (Go.Operand.const (Go.Value.int Go.IntKind.i64 1)) (vs.headD undef) (Go.Value.int Go.IntKind.i64 1)) (fun v35 w =>
        J_1 [v35] w) w) w) w) w) (fun w =>
        J_1 [(vs.headD undef)] w) w) w) w) w) w) w) w) w) (fun vs_1 w =>   -- [5]
    LiftP Try.prog (binS Go.BinOp.add 3 (Go.Operand.tmp 20) (Go.Operand.const (Go.Value.int Go.IntKind.i64 1)) (vs.tail.headD undef) (Go.Value.int Go.IntKind.i64 1)) (fun v21 w =>
    J [(vs_1.headD undef), v21] w) w) w) (fun w =>
      LiftP Try.prog (Instr.sliceAt 22 a0 (some (vs.headD undef)) none none) (fun v38 w =>
  NextP Try.prog (builtin Go.Builtin.clear #[22] 0 #[false] #[v38]) (fun v__2 w =>
  LiftP Try.prog (Instr.sliceAt 22 a0 none (some (vs.headD undef)) none) (fun v41 w =>
  R v41 w) w) w) w) w) w) w) [v10, v15] w) w) w) w) w
theorem S62.calls (a0 a1 : Value) (R : Value → World → Prop) (w : World) (h : S62 a0 a1 R w) : Calls Try.prog 62 #[a0, a1] w fun e w' => ∃ v, e = .returned v ∧ R v w' :=
  calls_of_tr (n := 42) (c := bodyOf Try.f62) (.two .leaf (.two .leaf (.two (.two .leaf (.two (.two .leaf .leaf) .leaf)) (.two (.two .leaf (.one (.loop [5, 6] (.two (.two .leaf (.two .leaf .leaf)) (.join [5] (.one (.two .leaf (.two .leaf (.two (.two .leaf .leaf) .leaf)))) .leaf))))) (.two .leaf (.two .leaf .leaf)))))) Try.func62 (by kernel_rfl) Try.ntmps62 (by kernel_rfl) (by kernel_rfl) [a0, a1] (by kernel_rfl) (of_eq_ (by kernel_rfl) h)

/-- shelfmark/span.Least$1 -/
def S64 (a0 a1 : Value) (R : Value → World → Prop) (w : World) : Prop :=
  LiftP Try.prog (Instr.box 32 a0) (fun v2 w =>
  LiftP Try.prog (Instr.box 32 a1) (fun v3 w =>
  LiftP Try.prog (Instr.fieldAt 32 v2 0) (fun v5 w =>
  LiftP Try.prog (Instr.loadAt 9 v5) (fun v6 w =>
  LiftP Try.prog (Instr.fieldAt 32 v3 0) (fun v7 w =>
  LiftP Try.prog (Instr.loadAt 9 v7) (fun v8 w =>
  CallP Try.prog 65 #[v6, v8] (fun v9 w =>
  R v9 w) w) w) w) w) w) w) w
theorem S64.calls (a0 a1 : Value) (R : Value → World → Prop) (w : World) (h : S64 a0 a1 R w) : Calls Try.prog 64 #[a0, a1] w fun e w' => ∃ v, e = .returned v ∧ R v w' :=
  calls_of_tr (n := 10) (c := bodyOf Try.f64) (.two .leaf (.two .leaf .leaf)) Try.func64 (by kernel_rfl) Try.ntmps64 (by kernel_rfl) (by kernel_rfl) [a0, a1] (by kernel_rfl) (of_eq_ (by kernel_rfl) h)

/-- cmp.Compare[string] -/
def S65 (a0 a1 : Value) (R : Value → World → Prop) (w : World) : Prop :=
  CallP Try.prog 74 #[a0] (fun v8 w =>
  CallP Try.prog 74 #[a1] (fun v10 w =>
  CondP v8 (fun w =>
    CondP v10 (fun w =>
      R (Go.Value.int Go.IntKind.i64 0) w) (fun w =>
      R (Go.Value.int Go.IntKind.i64 (-1)) w) w) (fun w =>
    CondP v10 (fun w =>
    R (Go.Value.int Go.IntKind.i64 1) w) (fun w =>
    LiftP Try.prog (binS Go.BinOp.lss 9 (Go.Operand.tmp 14) (Go.Operand.tmp 15) a0 a1) (fun v16 w =>
  CondP v16 (fun w =>
    R (Go.Value.int Go.IntKind.i64 (-1)) w) (fun w =>
    LiftP Try.prog (binS Go.BinOp.gtr 9 (Go.Operand.tmp 17) (Go.Operand.tmp 18) a0 a1) (fun v19 w =>
  CondP v19 (fun w =>
    R (Go.Value.int Go.IntKind.i64 1) w) (fun w =>
    R (Go.Value.int Go.IntKind.i64 0) w) w) w) w) w) w) w) w) w
theorem S65.calls (a0 a1 : Value) (R : Value → World → Prop) (w : World) (h : S65 a0 a1 R w) : Calls Try.prog 65 #[a0, a1] w fun e w' => ∃ v, e = .returned v ∧ R v w' :=
  calls_of_tr (n := 20) (c := bodyOf Try.f65) (.two .leaf (.two .leaf (.two .leaf (.two (.two .leaf (.two (.two (.two .leaf (.two (.two .leaf .leaf) .leaf)) (.two .leaf .leaf)) .leaf)) (.two (.two .leaf (.two (.two .leaf .leaf) .leaf)) (.two (.two .leaf (.two (.two .leaf .leaf) .leaf)) (.two (.two .leaf (.two (.two .leaf .leaf) .leaf)) (.two .leaf .leaf)))))))) Try.func65 (by kernel_rfl) Try.ntmps65 (by kernel_rfl) (by kernel_rfl) [a0, a1] (by kernel_rfl) (of_eq_ (by kernel_rfl) h)

/-- shelfmark/span.lesser -/
def S69 (a0 a1 : Value) (R : Value → World → Prop) (w : World) : Prop :=
  LiftP Try.prog (binS Go.BinOp.eql 9 (Go.Operand.tmp 5) (Go.Operand.const (Go.Value.string { data := #[] })) a0 (Go.Value.string { data := #[] })) (fun v6 w =>
  GuardP v6 false (fun K w => K a1 w) (fun v8 w =>
  GuardP v6 false (fun K w => LiftP Try.prog (binS Go.BinOp.neq 9 (Go.Operand.tmp 8) (Go.Operand.const (Go.Value.string { data := #[] })) v8 (Go.Value.string { data := #[] })) K w) (fun v9 w =>
  GuardP v6 false (fun K w => K v9 w) (fun v10 w =>
  GuardP v10 true (fun K w => K a1 w) (fun v11 w =>
  GuardP v10 true (fun K w => K a0 w) (fun v12 w =>
  GuardP v10 true (fun K w => LiftP Try.prog (binS Go.BinOp.lss 9 (Go.Operand.tmp 11) (Go.Operand.tmp 12) v11 v12) K w) (fun v13 w =>
  GuardP v6 false (fun K w => PickP v10 v13 (Go.Value.bool false) K w) (fun v14 w =>
  PickP v6 (Go.Value.bool true) v14 (fun v15 w =>
  CondP v15 (fun w =>
    R a1 w) (fun w =>
    R a0 w) w) w) w) w) w) w) w) w) w) w
theorem S69.calls (a0 a1 : Value) (R : Value → World → Prop) (w : World) (h : S69 a0 a1 R w) : Calls Try.prog 69 #[a0, a1] w fun e w' => ∃ v, e = .returned v ∧ R v w' :=
  calls_of_tr (n := 18) (c := bodyOf Try.f69) (.two .leaf (.two (.two .leaf (.two (.two .leaf .leaf) .leaf)) (.two .leaf .leaf))) Try.func69 (by kernel_rfl) Try.ntmps69 (by kernel_rfl) (by kernel_rfl) [a0, a1] (by kernel_rfl) (of_eq_ (by kernel_rfl) h)

/-- slices.IndexFunc[[]shelfmark/api.Range,shelfmark/api.Range] -/
def S71 (a0 a1 : Value) (R : Value → World → Prop) (w : World) : Prop :=
  NextP Try.prog (builtin Go.Builtin.len #[22] 3 #[false] #[a0]) (fun v7 w =>
  LoopP (fun J vs w =>   -- [8]
    LiftP Try.prog (binS Go.BinOp.lss 3 (Go.Operand.tmp 8) (Go.Operand.tmp 7) (vs.headD undef) v7) (fun v9 w =>
    CondP v9 (fun w =>
      LiftP Try.prog (Instr.indexAt 22 a0 (vs.headD undef)) (fun v14 w =>
    LiftP Try.prog (Instr.loadAt 32 v14) (fun v15 w =>
    NextP Try.prog (callV a1 #[v15]) (fun v16 w =>
    CondP v16 (fun w =>
      R (vs.headD undef) w) (fun w =>
      LiftP Try.prog (binS Go.BinOp.add 3 (Go.Operand.tmp 8) (Go.Operand.const (Go.Value.int Go.IntKind.i64 1)) (vs.headD undef) (Go.Value.int Go.IntKind.i64 1)) (fun v18 w =>
    J [v18] w) w) w) w) w) w) (fun w =>
      R (Go.Value.int Go.IntKind.i64 (-1)) w) w) w) [(Go.Value.int Go.IntKind.i64 0)] w) w
theorem S71.calls (a0 a1 : Value) (R : Value → World → Prop) (w : World) (h : S71 a0 a1 R w) : Calls Try.prog 71 #[a0, a1] w fun e w' => ∃ v, e = .returned v ∧ R v w' :=
  calls_of_tr (n := 19) (c := bodyOf Try.f71) (.two .leaf (.two (.two .leaf (.one (.loop [8] (.two .leaf (.two (.two .leaf .leaf) (.two (.one (.two .leaf (.two .leaf (.two (.two .leaf .leaf) .leaf)))) .leaf)))))) (.two .leaf .leaf))) Try.func71 (by kernel_rfl) Try.ntmps71 (by kernel_rfl) (by kernel_rfl) [a0, a1] (by kernel_rfl) (of_eq_ (by kernel_rfl) h)

/-- cmp.isNaN[string] -/
def S74 (a0 : Value) (R : Value → World → Prop) (w : World) : Prop :=
  LiftP Try.prog (binS Go.BinOp.neq 9 (Go.Operand.tmp 3) (Go.Operand.tmp 4) a0 a0) (fun v5 w =>
  R v5 w) w
theorem S74.calls (a0 : Value) (R : Value → World → Prop) (w : World) (h : S74 a0 R w) : Calls Try.prog 74 #[a0] w fun e w' => ∃ v, e = .returned v ∧ R v w' :=
  calls_of_tr (n := 6) (c := bodyOf Try.f74) (.two .leaf (.two .leaf .leaf)) Try.func74 (by kernel_rfl) Try.ntmps74 (by kernel_rfl) (by kernel_rfl) [a0] (by kernel_rfl) (of_eq_ (by kernel_rfl) h)

end Go.Proofs.Ytcfncjejpjjhdaa.E
