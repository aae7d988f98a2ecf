import Derived.Test.YtcfncjejpjjhdaaM1
import Derived.Test.YtcfncjejpjjhdaaProg
import Derived.KernelRfl
namespace Go.Proofs.Ytcfncjejpjjhdaa.E
open Go
set_option maxRecDepth 100000

/-- shelfmark/pack.Num -/
def S48 (a0 : Value) (R : Value → World → Prop) (w : World) : Prop :=
  LiftP Try.prog (binS Go.BinOp.lss 3 (Go.Operand.tmp 4) (Go.Operand.const (Go.Value.int Go.IntKind.i64 0)) a0 (Go.Value.int Go.IntKind.i64 0)) (fun v5 w =>
  CondP v5 (fun w =>
    R (Go.Value.slice none 0 0) w) (fun w =>
    LoopP (fun J vs w =>   -- [0, 3]
    LiftP Try.prog (binS Go.BinOp.gtr 3 (Go.Operand.tmp 6) (Go.Operand.const (Go.Value.int Go.IntKind.i64 127)) (vs.headD undef) (Go.Value.int Go.IntKind.i64 127)) (fun v7 w =>
    CondP v7 (fun w =>
      LiftP Try.prog (convert 3 5 (vs.headD undef)) (fun v12 w =>
    LiftP Try.prog (binS Go.BinOp.or 5 (Go.Operand.tmp 12) (Go.Operand.const (Go.Value.int Go.IntKind.u8 128)) v12 (Go.Value.int Go.IntKind.u8 128)) (fun v13 w =>
    LiftP Try.prog (Instr.buildSlice 84 1 #[(0, v13)]) (fun v14 w =>
    NextP Try.prog (builtin Go.Builtin.append #[84, 84] 84 #[false, false] #[(vs.tail.headD undef), v14]) (fun v15 w =>
    LiftP Try.prog (binS Go.BinOp.shr 3 (Go.Operand.tmp 8) (Go.Operand.const (Go.Value.int Go.IntKind.u64 7)) (vs.headD undef) (Go.Value.int Go.IntKind.u64 7)) (fun v9 w =>
    J [v9, v15] w) w) w) w) w) w) (fun w =>
      LiftP Try.prog (convert 3 5 (vs.headD undef)) (fun v18 w =>
  LiftP Try.prog (Instr.buildSlice 84 1 #[(0, v18)]) (fun v19 w =>
  NextP Try.prog (builtin Go.Builtin.append #[84, 84] 84 #[false, false] #[(vs.tail.headD undef), v19]) (fun v20 w =>
  R v20 w) w) w) w) w) w) [a0, (Go.Value.slice none 0 0)] w) w) w
theorem S48.calls (a0 : Value) (R : Value → World → Prop) (w : World) (h : S48 a0 R w) : Calls Try.prog 48 #[a0] w fun e w' => ∃ v, e = .returned v ∧ R v w' :=
  calls_of_tr (n := 21) (c := bodyOf Try.f48) (.two .leaf (.two (.two .leaf (.two (.two .leaf .leaf) .leaf)) (.two .leaf (.two (.one (.loop [0, 3] (.two (.two .leaf (.two .leaf .leaf)) (.two (.one .leaf) .leaf)))) (.two .leaf .leaf))))) Try.func48 (by kernel_rfl) Try.ntmps48 (by kernel_rfl) (by kernel_rfl) [a0] (by kernel_rfl) (of_eq_ (by kernel_rfl) h)

/-- shelfmark/pack.Join -/
def S49 (a0 : Value) (R : Value → World → Prop) (w : World) : Prop :=
  CallP Try.prog 66 #[a0] (fun v4 w =>
  R v4 w) w
theorem S49.calls (a0 : Value) (R : Value → World → Prop) (w : World) (h : S49 a0 R w) : Calls Try.prog 49 #[a0] w fun e w' => ∃ v, e = .returned v ∧ R v w' :=
  calls_of_tr (n := 5) (c := bodyOf Try.f49) (.two .leaf (.two .leaf .leaf)) Try.func49 (by kernel_rfl) Try.ntmps49 (by kernel_rfl) (by kernel_rfl) [a0] (by kernel_rfl) (of_eq_ (by kernel_rfl) h)

/-- shelfmark/pack.Texts -/
def S50 (a0 : Value) (R : Value → World → Prop) (w : World) : Prop :=
  NextP Try.prog (builtin Go.Builtin.len #[73] 3 #[false] #[a0]) (fun v7 w =>
  CallP Try.prog 48 #[v7] (fun v8 w =>
  NextP Try.prog (builtin Go.Builtin.len #[73] 3 #[false] #[a0]) (fun v10 w =>
  LoopP (fun J vs w =>   -- [3, 11]
    LiftP Try.prog (binS Go.BinOp.lss 3 (Go.Operand.tmp 11) (Go.Operand.tmp 10) (vs.tail.headD undef) v10) (fun v12 w =>
    CondP v12 (fun w =>
      LiftP Try.prog (Instr.indexAt 73 a0 (vs.tail.headD undef)) (fun v13 w =>
    LiftP Try.prog (Instr.loadAt 9 v13) (fun v14 w =>
    CallP Try.prog 67 #[v14] (fun v17 w =>
    NextP Try.prog (builtin Go.Builtin.append #[84, 84] 84 #[false, false] #[(vs.headD undef), v17]) (fun v18 w =>
    LiftP Try.prog (binS Go.BinOp.add 3 (Go.Operand.tmp 11) (Go.Operand.const (Go.Value.int Go.IntKind.i64 1)) (vs.tail.headD undef) (Go.Value.int Go.IntKind.i64 1)) (fun v19 w =>
    J [v18, v19] w) w) w) w) w) w) (fun w =>
      R (vs.headD undef) w) w) w) [v8, (Go.Value.int Go.IntKind.i64 0)] w) w) w) w
theorem S50.calls (a0 : Value) (R : Value → World → Prop) (w : World) (h : S50 a0 R w) : Calls Try.prog 50 #[a0] w fun e w' => ∃ v, e = .returned v ∧ R v w' :=
  calls_of_tr (n := 21) (c := bodyOf Try.f50) (.two .leaf (.two .leaf (.two (.two .leaf (.one (.loop [3, 11] (.two .leaf (.two (.two .leaf .leaf) (.two (.one (.two .leaf .leaf)) .leaf)))))) (.two .leaf .leaf)))) Try.func50 (by kernel_rfl) Try.ntmps50 (by kernel_rfl) (by kernel_rfl) [a0] (by kernel_rfl) (of_eq_ (by kernel_rfl) h)

/-- shelfmark/pack.GetNum -/
def S60 (a0 a1 : Value) (R : Value → World → Prop) (w : World) : Prop :=
  LiftP Try.prog (binS Go.BinOp.lss 3 (Go.Operand.tmp 9) (Go.Operand.const (Go.Value.int Go.IntKind.i64 0)) a1 (Go.Value.int Go.IntKind.i64 0)) (fun v10 w =>
  GuardP v10 false (fun K w => K a1 w) (fun v12 w =>
  GuardP v10 false (fun K w => K a0 w) (fun v13 w =>
  GuardP v10 false (fun K w => NextP Try.prog (builtin Go.Builtin.len #[84] 3 #[false] #[v13]) K w) (fun v14 w =>
  GuardP v10 false (fun K w => LiftP Try.prog (binS Go.BinOp.gtr 3 (Go.Operand.tmp 12) (Go.Operand.tmp 14) v12 v14) K w) (fun v15 w =>
  PickP v10 (Go.Value.bool true) v15 (fun v16 w =>
  CondP v16 (fun w =>
    R (.tuple #[(Go.Value.int Go.IntKind.i64 0), (Go.Value.int Go.IntKind.i64 0), (Go.Value.int Go.IntKind.i64 1)]) w) (fun w =>
    LiftP Try.prog (Instr.sliceAt 84 a0 (some a1) none none) (fun v19 w =>
  NextP Try.prog (builtin Go.Builtin.len #[84] 3 #[false] #[v19]) (fun v20 w =>
  LoopP (fun J vs w =>   -- [4, 21]
    LiftP Try.prog (binS Go.BinOp.lss 3 (Go.Operand.tmp 21) (Go.Operand.tmp 20) (vs.tail.headD undef) v20) (fun v22 w =>
    CondP v22 (fun w =>
      LiftP Try.prog (Instr.indexAt 84 v19 (vs.tail.headD undef)) (fun v24 w =>
    LiftP Try.prog (Instr.loadAt 5 v24) (fun v25 w =>
    LiftP Try.prog (binS Go.BinOp.and 5 (Go.Operand.tmp 27) (Go.Operand.const (Go.Value.int Go.IntKind.u8 127)) v25 (Go.Value.int Go.IntKind.u8 127)) (fun v28 w =>
    LiftP Try.prog (convert 5 3 v28) (fun v29 w =>
    LiftP Try.prog (binS Go.BinOp.mul 3 (Go.Operand.const (Go.Value.int Go.IntKind.i64 7)) (Go.Operand.tmp 30) (Go.Value.int Go.IntKind.i64 7) (vs.tail.headD undef)) (fun v31 w =>
    LiftP Try.prog (binS Go.BinOp.shl 3 (Go.Operand.tmp 29) (Go.Operand.tmp 31) v29 v31) (fun v32 w =>
    LiftP Try.prog (binS Go.BinOp.or 3 (Go.Operand.tmp 26) (Go.Operand.tmp 32) (vs.headD undef) v32) (fun v33 w =>
    JoinP (fun J_1 w =>
      LiftP Try.prog (binS Go.BinOp.gtr 5 (Go.Operand.tmp 35) (Go.Operand.const (Go.Value.int Go.IntKind.u8 127)) v25 (Go.Value.int Go.IntKind.u8 127)) (fun v36 w =>
      GuardP v36 true (fun K w => K (vs.tail.headD undef) w) (fun v38 w =>
      GuardP v36 true (fun K w => LiftP Try.prog (binS Go.BinOp.eql 3 (Go.Operand.tmp 38) (Go.Operand.const (Go.Value.int Go.IntKind.i64 8)) v38 (Go.Value.int Go.IntKind.i64 8)) K w) (fun v39 w =>
      PickP v36 v39 (Go.Value.bool false) (fun v40 w =>
      CondP v40 (fun w =>
        J_1 [v40] w) (fun w =>
        LiftP Try.prog (binS Go.BinOp.eql 5 (Go.Operand.tmp 41) (Go.Operand.const (Go.Value.int Go.IntKind.u8 0)) v25 (Go.Value.int Go.IntKind.u8 0)) (fun v42 w =>
        GuardP v42 true (fun K w => K (vs.tail.headD undef) w) (fun v44 w =>
        GuardP v42 true (fun K w => LiftP Try.prog (binS Go.BinOp.gtr 3 (Go.Operand.tmp 44) (Go.Operand.const (Go.Value.int Go.IntKind.i64 0)) v44 (Go.Value.int Go.IntKind.i64 0)) K w) (fun v45 w =>
        PickP v42 v45 (Go.Value.bool false) (fun v46 w =>
        J_1 [v46] w) w) w) w) w) w) w) w) w) w) (fun vs_1 w =>   -- [34]
    CondP (vs_1.headD undef) (fun w =>
      R (.tuple #[(Go.Value.int Go.IntKind.i64 0), (Go.Value.int Go.IntKind.i64 0), (Go.Value.int Go.IntKind.i64 3)]) w) (fun w =>
      LiftP Try.prog (binS Go.BinOp.lss 5 (Go.Operand.tmp 48) (Go.Operand.const (Go.Value.int Go.IntKind.u8 128)) v25 (Go.Value.int Go.IntKind.u8 128)) (fun v49 w =>
      CondP v49 (fun w =>
        LiftP Try.prog (binS Go.BinOp.add 3 (Go.Operand.tmp 51) (Go.Operand.tmp 52) a1 (vs.tail.headD undef)) (fun v53 w =>
        LiftP Try.prog (binS Go.BinOp.add 3 (Go.Operand.tmp 53) (Go.Operand.const (Go.Value.int Go.IntKind.i64 1)) v53 (Go.Value.int Go.IntKind.i64 1)) (fun v54 w =>
        R (.tuple #[v33, v54, (Go.Value.int Go.IntKind.i64 0)]) w) w) w) (fun w =>
        LiftP Try.prog (binS Go.BinOp.add 3 (Go.Operand.tmp 21) (Go.Operand.const (Go.Value.int Go.IntKind.i64 1)) (vs.tail.headD undef) (Go.Value.int Go.IntKind.i64 1)) (fun v55 w =>
    J [v33, v55] w) w) w) w) w) w) w) w) w) w) w) w) w) (fun w =>
      R (.tuple #[(Go.Value.int Go.IntKind.i64 0), (Go.Value.int Go.IntKind.i64 0), (Go.Value.int Go.IntKind.i64 2)]) w) w) w) [(Go.Value.int Go.IntKind.i64 0), (Go.Value.int Go.IntKind.i64 0)] w) w) w) w) w) w) w) w) w) w
theorem S60.calls (a0 a1 : Value) (R : Value → World → Prop) (w : World) (h : S60 a0 a1 R w) : Calls Try.prog 60 #[a0, a1] w fun e w' => ∃ v, e = .returned v ∧ R v w' :=
  calls_of_tr (n := 56) (c := bodyOf Try.f60) (.two .leaf (.two (.two .leaf (.two (.two .leaf .leaf) .leaf)) (.two (.two .leaf (.one (.loop [4, 21] (.two .leaf (.two (.two .leaf .leaf) (.two (.one (.two .leaf (.two .leaf (.one (.join [34] (.two .leaf (.two .leaf .leaf)) (.two (.two .leaf .leaf) (.two .leaf (.two (.two .leaf .leaf) .leaf)))))))) .leaf)))))) (.two .leaf .leaf)))) Try.func60 (by kernel_rfl) Try.ntmps60 (by kernel_rfl) (by kernel_rfl) [a0, a1] (by kernel_rfl) (of_eq_ (by kernel_rfl) h)

/-- shelfmark/pack.GetTexts -/
def S61 (a0 a1 a2 a3 : Value) (R : Value → World → Prop) (w : World) : Prop :=
  CallP Try.prog 60 #[a0, a1] (fun v18 w =>
  LiftP Try.prog (Instr.extract v18 0) (fun v19 w =>
  LiftP Try.prog (Instr.extract v18 1) (fun v20 w =>
  LiftP Try.prog (Instr.extract v18 2) (fun v21 w =>
  JoinP (fun J w =>
    LiftP Try.prog (binS Go.BinOp.eql 28 (Go.Operand.tmp 22) (Go.Operand.const (Go.Value.int Go.IntKind.i64 0)) v21 (Go.Value.int Go.IntKind.i64 0)) (fun v23 w =>
    GuardP v23 true (fun K w => K v19 w) (fun v25 w =>
    GuardP v23 true (fun K w => K a2 w) (fun v26 w =>
    GuardP v23 true (fun K w => LiftP Try.prog (binS Go.BinOp.gtr 3 (Go.Operand.tmp 25) (Go.Operand.tmp 26) v25 v26) K w) (fun v27 w =>
    PickP v23 v27 (Go.Value.bool false) (fun v28 w =>
    CondP v28 (fun w =>
      J [(Go.Value.int Go.IntKind.i64 4)] w) (fun w =>
      J [v21] w) w) w) w) w) w) w) (fun vs w =>   -- [10]
  LiftP Try.prog (binS Go.BinOp.neq 28 (Go.Operand.tmp 29) (Go.Operand.const (Go.Value.int Go.IntKind.i64 0)) (vs.headD undef) (Go.Value.int Go.IntKind.i64 0)) (fun v30 w =>
  CondP v30 (fun w =>
    R (.tuple #[(Go.Value.slice none 0 0), (Go.Value.int Go.IntKind.i64 0), (vs.headD undef)]) w) (fun w =>
    LoopP (fun J_1 vs_1 w =>   -- [1, 8, 33]
    LiftP Try.prog (binS Go.BinOp.lss 3 (Go.Operand.tmp 33) (Go.Operand.tmp 32) (vs_1.tail.tail.headD undef) v19) (fun v34 w =>
    CondP v34 (fun w =>
      CallP Try.prog 70 #[a0, (vs_1.headD undef), a3] (fun v39 w =>
    LiftP Try.prog (Instr.extract v39 0) (fun v40 w =>
    LiftP Try.prog (Instr.extract v39 1) (fun v41 w =>
    LiftP Try.prog (Instr.extract v39 2) (fun v42 w =>
    LiftP Try.prog (binS Go.BinOp.neq 28 (Go.Operand.tmp 43) (Go.Operand.const (Go.Value.int Go.IntKind.i64 0)) v42 (Go.Value.int Go.IntKind.i64 0)) (fun v44 w =>
    CondP v44 (fun w =>
      R (.tuple #[(Go.Value.slice none 0 0), (Go.Value.int Go.IntKind.i64 0), v42]) w) (fun w =>
      LiftP Try.prog (Instr.buildSlice 73 1 #[(0, v40)]) (fun v48 w =>
    NextP Try.prog (builtin Go.Builtin.append #[73, 73] 73 #[false, false] #[(vs_1.tail.headD undef), v48]) (fun v49 w =>
    LiftP Try.prog (binS Go.BinOp.add 3 (Go.Operand.tmp 33) (Go.Operand.const (Go.Value.int Go.IntKind.i64 1)) (vs_1.tail.tail.headD undef) (Go.Value.int Go.IntKind.i64 1)) (fun v51 w =>
    J_1 [v41, v49, v51] w) w) w) w) w) w) w) w) w) w) (fun w =>
      R (.tuple #[(vs_1.tail.headD undef), (vs_1.headD undef), (Go.Value.int Go.IntKind.i64 0)]) w) w) w) [v20, (Go.Value.slice none 0 0), (Go.Value.int Go.IntKind.i64 0)] w) w) w) w) w) w) w) w
theorem S61.calls (a0 a1 a2 a3 : Value) (R : Value → World → Prop) (w : World) (h : S61 a0 a1 a2 a3 R w) : Calls Try.prog 61 #[a0, a1, a2, a3] w fun e w' => ∃ v, e = .returned v ∧ R v w' :=
  calls_of_tr (n := 54) (c := bodyOf Try.f61) (.two .leaf (.two .leaf (.join [10] (.two .leaf (.two .leaf .leaf)) (.two (.two .leaf (.two (.two .leaf .leaf) .leaf)) (.two (.two .leaf (.one (.loop [1, 8, 33] (.two .leaf (.two (.two .leaf .leaf) (.two (.one (.two .leaf (.two (.two .leaf (.two (.two .leaf .leaf) .leaf)) .leaf))) .leaf)))))) (.two .leaf .leaf)))))) Try.func61 (by kernel_rfl) Try.ntmps61 (by kernel_rfl) (by kernel_rfl) [a0, a1, a2, a3] (by kernel_rfl) (of_eq_ (by kernel_rfl) h)

/-- slices.Concat[[]byte,byte] -/
def S66 (a0 : Value) (R : Value → World → Prop) (w : World) : Prop :=
  NextP Try.prog (builtin Go.Builtin.len #[111] 3 #[false] #[a0]) (fun v10 w =>
  LoopP (fun J vs w =>   -- [3, 11]
    LiftP Try.prog (binS Go.BinOp.lss 3 (Go.Operand.tmp 11) (Go.Operand.tmp 10) (vs.tail.headD undef) v10) (fun v12 w =>
    CondP v12 (fun w =>
      JoinP (fun J_1 w =>
      LiftP Try.prog (Instr.indexAt 111 a0 (vs.tail.headD undef)) (fun v13 w =>
      LiftP Try.prog (Instr.loadAt 84 v13) (fun v14 w =>
      NextP Try.prog (builtin Go.Builtin.len #[84] 3 #[false] #[v14]) (fun v17 w =>
      LiftP Try.prog (binS Go.BinOp.add 3 (Go.Operand.tmp 15) (Go.Operand.tmp 17) (vs.headD undef) v17) (fun v18 w =>
      LiftP Try.prog (binS Go.BinOp.lss 3 (Go.Operand.tmp 19) (Go.Operand.const (Go.Value.int Go.IntKind.i64 0)) v18 (Go.Value.int Go.IntKind.i64 0)) (fun v20 w =>
      CondP v20 (fun w =>
        LiftP Try.prog (Instr.makeInterface 9 (Go.Value.string { data := #[108, 101, 110, 32, 111, 117, 116, 32, 111, 102, 32, 114, 97, 110, 103, 101] })) (fun v21 w =>
        LiftP Try.prog (Instr.panic v21) (fun v_ w =>
        J_1 [v18] w) w) w) (fun w =>
        J_1 [v18] w) w) w) w) w) w) w) (fun vs_1 w =>   -- [3]
    LiftP Try.prog (binS Go.BinOp.add 3 (Go.Operand.tmp 11) (Go.Operand.const (Go.Value.int Go.IntKind.i64 1)) (vs.tail.headD undef) (Go.Value.int Go.IntKind.i64 1)) (fun v22 w =>
    J [(vs_1.headD undef), v22] w) w) w) (fun w =>
      CallP Try.prog 75 #[(Go.Value.slice none 0 0), (vs.headD undef)] (fun v24 w =>
  NextP Try.prog (builtin Go.Builtin.len #[111] 3 #[false] #[a0]) (fun v26 w =>
  LoopP (fun J_2 vs_2 w =>   -- [6, 27]
    LiftP Try.prog (binS Go.BinOp.lss 3 (Go.Operand.tmp 27) (Go.Operand.tmp 26) (vs_2.tail.headD undef) v26) (fun v28 w =>
    CondP v28 (fun w =>
      LiftP Try.prog (Instr.indexAt 111 a0 (vs_2.tail.headD undef)) (fun v29 w =>
    LiftP Try.prog (Instr.loadAt 84 v29) (fun v30 w =>
    NextP Try.prog (builtin Go.Builtin.append #[84, 84] 84 #[false, false] #[(vs_2.headD undef), v30]) (fun v33 w =>
    LiftP Try.prog (binS Go.BinOp.add 3 (Go.Operand.tmp 27) (Go.Operand.const (Go.Value.int Go.IntKind.i64 1)) (vs_2.tail.headD undef) (Go.Value.int Go.IntKind.i64 1)) (fun v34 w =>
    J_2 [v33, v34] w) w) w) w) w) (fun w =>
      R (vs_2.headD undef) w) w) w) [v24, (Go.Value.int Go.IntKind.i64 0)] w) w) w) w) w) [(Go.Value.int Go.IntKind.i64 0), (Go.Value.int Go.IntKind.i64 0)] w) w
theorem S66.calls (a0 : Value) (R : Value → World → Prop) (w : World) (h : S66 a0 R w) : Calls Try.prog 66 #[a0] w fun e w' => ∃ v, e = .returned v ∧ R v w' :=
  calls_of_tr (n := 36) (c := bodyOf Try.f66) (.two .leaf (.two .leaf (.two (.two .leaf (.one (.loop [3, 11] (.two .leaf (.two (.two .leaf .leaf) (.join [3] (.one (.two .leaf (.two .leaf (.two .leaf (.two .leaf .leaf))))) .leaf)))))) (.two .leaf (.two (.two .leaf (.one (.loop [6, 27] (.two .leaf (.two (.two .leaf .leaf) (.two (.one (.two .leaf .leaf)) .leaf)))))) (.two .leaf .leaf)))))) Try.func66 (by kernel_rfl) Try.ntmps66 (by kernel_rfl) (by kernel_rfl) [a0] (by kernel_rfl) (of_eq_ (by kernel_rfl) h)

/-- shelfmark/pack.Text -/
def S67 (a0 : Value) (R : Value → World → Prop) (w : World) : Prop :=
  NextP Try.prog (builtin Go.Builtin.len #[9] 3 #[false] #[a0]) (fun v4 w =>
  CallP Try.prog 48 #[v4] (fun v5 w =>
  NextP Try.prog (builtin Go.Builtin.append #[84, 9] 84 #[false, false] #[v5, a0]) (fun v7 w =>
  R v7 w) w) w) w
theorem S67.calls (a0 : Value) (R : Value → World → Prop) (w : World) (h : S67 a0 R w) : Calls Try.prog 67 #[a0] w fun e w' => ∃ v, e = .returned v ∧ R v w' :=
  calls_of_tr (n := 8) (c := bodyOf Try.f67) (.two .leaf (.two .leaf .leaf)) Try.func67 (by kernel_rfl) Try.ntmps67 (by kernel_rfl) (by kernel_rfl) [a0] (by kernel_rfl) (of_eq_ (by kernel_rfl) h)

/-- shelfmark/pack.GetText -/
def S70 (a0 a1 a2 : Value) (R : Value → World → Prop) (w : World) : Prop :=
  CallP Try.prog 60 #[a0, a1] (fun v13 w =>
  LiftP Try.prog (Instr.extract v13 0) (fun v14 w =>
  LiftP Try.prog (Instr.extract v13 1) (fun v15 w =>
  LiftP Try.prog (Instr.extract v13 2) (fun v16 w =>
  LiftP Try.prog (binS Go.BinOp.neq 28 (Go.Operand.tmp 18) (Go.Operand.const (Go.Value.int Go.IntKind.i64 0)) v16 (Go.Value.int Go.IntKind.i64 0)) (fun v19 w =>
  CondP v19 (fun w =>
    R (.tuple #[(Go.Value.string { data := #[] }), (Go.Value.int Go.IntKind.i64 0), v16]) w) (fun w =>
    LiftP Try.prog (binS Go.BinOp.gtr 3 (Go.Operand.tmp 22) (Go.Operand.tmp 23) v14 a2) (fun v24 w =>
    CondP v24 (fun w =>
      R (.tuple #[(Go.Value.string { data := #[] }), (Go.Value.int Go.IntKind.i64 0), (Go.Value.int Go.IntKind.i64 4)]) w) (fun w =>
      NextP Try.prog (builtin Go.Builtin.len #[84] 3 #[false] #[a0]) (fun v28 w =>
      LiftP Try.prog (binS Go.BinOp.sub 3 (Go.Operand.tmp 28) (Go.Operand.tmp 29) v28 v15) (fun v30 w =>
      LiftP Try.prog (binS Go.BinOp.gtr 3 (Go.Operand.tmp 26) (Go.Operand.tmp 30) v14 v30) (fun v31 w =>
      CondP v31 (fun w =>
        R (.tuple #[(Go.Value.string { data := #[] }), (Go.Value.int Go.IntKind.i64 0), (Go.Value.int Go.IntKind.i64 2)]) w) (fun w =>
        LiftP Try.prog (binS Go.BinOp.add 3 (Go.Operand.tmp 34) (Go.Operand.tmp 35) v15 v14) (fun v36 w =>
  LiftP Try.prog (Instr.sliceAt 84 a0 (some v15) (some v36) none) (fun v37 w =>
  LiftP Try.prog (convert 84 9 v37) (fun v38 w =>
  LiftP Try.prog (binS Go.BinOp.add 3 (Go.Operand.tmp 39) (Go.Operand.tmp 40) v15 v14) (fun v41 w =>
  R (.tuple #[v38, v41, (Go.Value.int Go.IntKind.i64 0)]) w) w) w) w) w) w) w) w) w) w) w) w) w) w) w) w) w
theorem S70.calls (a0 a1 a2 : Value) (R : Value → World → Prop) (w : World) (h : S70 a0 a1 a2 R w) : Calls Try.prog 70 #[a0, a1, a2] w fun e w' => ∃ v, e = .returned v ∧ R v w' :=
  calls_of_tr (n := 42) (c := bodyOf Try.f70) (.two .leaf (.two .leaf (.two (.one (.two .leaf (.two (.two .leaf .leaf) (.two .leaf (.two (.two .leaf .leaf) (.two .leaf (.two (.two .leaf .leaf) .leaf))))))) (.two .leaf .leaf)))) Try.func70 (by kernel_rfl) Try.ntmps70 (by kernel_rfl) (by kernel_rfl) [a0, a1, a2] (by kernel_rfl) (of_eq_ (by kernel_rfl) h)

/-- slices.Grow[[]byte,byte] -/
def S75 (a0 a1 : Value) (R : Value → World → Prop) (w : World) : Prop :=
  JoinP (fun J w =>
    LiftP Try.prog (binS Go.BinOp.lss 3 (Go.Operand.tmp 5) (Go.Operand.const (Go.Value.int Go.IntKind.i64 0)) a1 (Go.Value.int Go.IntKind.i64 0)) (fun v6 w =>
    CondP v6 (fun w =>
      LiftP Try.prog (Instr.makeInterface 9 (Go.Value.string { data := #[99, 97, 110, 110, 111, 116, 32, 98, 101, 32, 110, 101, 103, 97, 116, 105, 118, 101] })) (fun v7 w =>
      LiftP Try.prog (Instr.panic v7) (fun v_ w =>
      J [] w) w) w) (fun w =>
      J [] w) w) w) (fun vs w =>   -- []
  JoinP (fun J_1 w =>
    NextP Try.prog (builtin Go.Builtin.cap #[84] 3 #[false] #[a0]) (fun v10 w =>
    NextP Try.prog (builtin Go.Builtin.len #[84] 3 #[false] #[a0]) (fun v12 w =>
    LiftP Try.prog (binS Go.BinOp.sub 3 (Go.Operand.tmp 10) (Go.Operand.tmp 12) v10 v12) (fun v13 w =>
    LiftP Try.prog (binS Go.BinOp.sub 3 (Go.Operand.tmp 8) (Go.Operand.tmp 13) a1 v13) (fun v14 w =>
    LiftP Try.prog (binS Go.BinOp.gtr 3 (Go.Operand.tmp 15) (Go.Operand.const (Go.Value.int Go.IntKind.i64 0)) v14 (Go.Value.int Go.IntKind.i64 0)) (fun v16 w =>
    CondP v16 (fun w =>
      NextP Try.prog (builtin Go.Builtin.cap #[84] 3 #[false] #[a0]) (fun v19 w =>
      LiftP Try.prog (Instr.sliceAt 84 a0 none (some v19) none) (fun v20 w =>
      NextP Try.prog (builtin Go.Builtin.append #[84, 3] 84 #[false, false] #[v20, v14]) (fun v22 w =>
      NextP Try.prog (builtin Go.Builtin.len #[84] 3 #[false] #[a0]) (fun v24 w =>
      LiftP Try.prog (Instr.sliceAt 84 v22 none (some v24) none) (fun v25 w =>
      J_1 [v25] w) w) w) w) w) w) (fun w =>
      J_1 [a0] w) w) w) w) w) w) w) (fun vs_1 w =>   -- [0]
  R (vs_1.headD undef) w) w) w
theorem S75.calls (a0 a1 : Value) (R : Value → World → Prop) (w : World) (h : S75 a0 a1 R w) : Calls Try.prog 75 #[a0, a1] w fun e w' => ∃ v, e = .returned v ∧ R v w' :=
  calls_of_tr (n := 27) (c := bodyOf Try.f75) (.two .leaf (.join [] (.two .leaf (.two .leaf .leaf)) (.join [0] (.two .leaf (.two .leaf (.two .leaf .leaf))) (.two .leaf .leaf)))) Try.func75 (by kernel_rfl) Try.ntmps75 (by kernel_rfl) (by kernel_rfl) [a0, a1] (by kernel_rfl) (of_eq_ (by kernel_rfl) h)

end Go.Proofs.Ytcfncjejpjjhdaa.E
