import Derived.Test.YthicbfopjakiiaaM1
import Derived.Test.YthicbfopjakiiaaProg
import Derived.KernelRfl
namespace Go.Proofs.Ythicbfopjakiiaa.E
open Go
set_option maxRecDepth 100000

/-- shelfmark/net.New -/
def S29 (R : Value → World → Prop) (w : World) : Prop :=
  LiftP Try.prog (Instr.makeMap 116 none) (fun v1 w =>
  LiftP Try.prog (Instr.build 118 #[(0, v1)]) (fun v2 w =>
  LiftP Try.prog (Instr.box 118 v2) (fun v3 w =>
  R v3 w) w) w) w
theorem S29.calls (R : Value → World → Prop) (w : World) (h : S29 R w) : Calls Try.prog 29 #[] w fun e w' => ∃ v, e = .returned v ∧ R v w' :=
  calls_of_tr (n := 4) (c := bodyOf Try.f29) (.two .leaf (.two .leaf .leaf)) Try.func29 (by kernel_rfl) Try.ntmps29 (by kernel_rfl) (by kernel_rfl) [] (by kernel_rfl) (of_eq_ (by kernel_rfl) h)

/-- (*shelfmark/net.Net).Send -/
def S30 (a0 a1 : Value) (R : Value → World → Prop) (w : World) : Prop :=
  LiftP Try.prog (Instr.box 58 a1) (fun v3 w =>
  LiftP Try.prog (Instr.loadAt 58 v3) (fun v7 w =>
  CallP Try.prog 59 #[v7] (fun v8 w =>
  LiftP Try.prog (binS Go.BinOp.neq 25 (Go.Operand.tmp 9) (Go.Operand.const (Go.Value.int Go.IntKind.i64 0)) v8 (Go.Value.int Go.IntKind.i64 0)) (fun v10 w =>
  CondP v10 (fun w =>
    R (.tuple #[(Go.Value.int Go.IntKind.i64 0), v8]) w) (fun w =>
    LiftP Try.prog (Instr.loadAt 58 v3) (fun v13 w =>
  CallP Try.prog 60 #[a0, v13] (fun v14 w =>
  LiftP Try.prog (Instr.extract v14 0) (fun v15 w =>
  LiftP Try.prog (Instr.extract v14 1) (fun v16 w =>
  R (.tuple #[v15, v16]) w) w) w) w) w) w) w) w) w) w
theorem S30.calls (a0 a1 : Value) (R : Value → World → Prop) (w : World) (h : S30 a0 a1 R w) : Calls Try.prog 30 #[a0, a1] w fun e w' => ∃ v, e = .returned v ∧ R v w' :=
  calls_of_tr (n := 17) (c := bodyOf Try.f30) (.two .leaf (.two (.two .leaf (.two .leaf (.two (.two .leaf .leaf) .leaf))) (.two .leaf .leaf))) Try.func30 (by kernel_rfl) Try.ntmps30 (by kernel_rfl) (by kernel_rfl) [a0, a1] (by kernel_rfl) (of_eq_ (by kernel_rfl) h)

/-- (*shelfmark/net.Net).Twice -/
def S31 (a0 a1 : Value) (R : Value → World → Prop) (w : World) : Prop :=
  NextP Try.prog (nilChk a0) (fun v10 w =>
  LiftP Try.prog (Instr.fieldAt 118 v10 0) (fun v11 w =>
  LiftP Try.prog (Instr.loadAt 116 v11) (fun v12 w =>
  LiftP Try.prog (Instr.lookup 116 v12 a1 true) (fun v14 w =>
  LiftP Try.prog (Instr.extract v14 0) (fun v15 w =>
  LiftP Try.prog (Instr.extract v14 1) (fun v16 w =>
  LiftP Try.prog (Instr.alloc 58 true (.tuple #[])) (fun v6 w =>
  LiftU Try.prog (Instr.storeAt 58 v6 v15) (fun v_ w =>
  LiftP Try.prog (Op.unary Go.UnOp.not v16) (fun v18 w =>
  CondP v18 (fun w =>
    R (.tuple #[(Go.Value.int Go.IntKind.i64 0), (Go.Value.int Go.IntKind.i64 7)]) w) (fun w =>
    LiftP Try.prog (Instr.loadAt 58 v6) (fun v20 w =>
  CallP Try.prog 60 #[a0, v20] (fun v21 w =>
  LiftP Try.prog (Instr.extract v21 0) (fun v22 w =>
  LiftP Try.prog (Instr.extract v21 1) (fun v23 w =>
  R (.tuple #[v22, v23]) w) w) w) w) w) w) w) w) w) w) w) w) w) w) w
theorem S31.calls (a0 a1 : Value) (R : Value → World → Prop) (w : World) (h : S31 a0 a1 R w) : Calls Try.prog 31 #[a0, a1] w fun e w' => ∃ v, e = .returned v ∧ R v w' :=
  calls_of_tr (n := 24) (c := bodyOf Try.f31) (.two .leaf (.two .leaf (.two (.two .leaf (.two (.two .leaf .leaf) .leaf)) (.two .leaf .leaf)))) Try.func31 (by kernel_rfl) Try.ntmps31 (by kernel_rfl) (by kernel_rfl) [a0, a1] (by kernel_rfl) (of_eq_ (by kernel_rfl) h)

/-- (*shelfmark/net.Net).Len -/
def S32 (a0 : Value) (R : Value → World → Prop) (w : World) : Prop :=
  NextP Try.prog (nilChk a0) (fun v4 w =>
  LiftP Try.prog (Instr.fieldAt 118 v4 0) (fun v5 w =>
  LiftP Try.prog (Instr.loadAt 116 v5) (fun v6 w =>
  NextP Try.prog (builtin Go.Builtin.len #[116] 3 #[false] #[v6]) (fun v7 w =>
  R v7 w) w) w) w) w
theorem S32.calls (a0 : Value) (R : Value → World → Prop) (w : World) (h : S32 a0 R w) : Calls Try.prog 32 #[a0] w fun e w' => ∃ v, e = .returned v ∧ R v w' :=
  calls_of_tr (n := 8) (c := bodyOf Try.f32) (.two .leaf (.two .leaf .leaf)) Try.func32 (by kernel_rfl) Try.ntmps32 (by kernel_rfl) (by kernel_rfl) [a0] (by kernel_rfl) (of_eq_ (by kernel_rfl) h)

/-- (*shelfmark/net.Net).Deliver -/
def S33 (a0 a1 : Value) (R : Value → World → Prop) (w : World) : Prop :=
  LiftP Try.prog (Instr.alloc 58 true (.tuple #[])) (fun v4 w =>
  NextP Try.prog (nilChk a0) (fun v10 w =>
  LiftP Try.prog (Instr.fieldAt 118 v10 0) (fun v11 w =>
  LiftP Try.prog (Instr.loadAt 116 v11) (fun v12 w =>
  LiftP Try.prog (Instr.lookup 116 v12 a1 true) (fun v14 w =>
  LiftP Try.prog (Instr.extract v14 0) (fun v15 w =>
  LiftP Try.prog (Instr.extract v14 1) (fun v16 w =>
  LiftP Try.prog (Instr.alloc 58 true (.tuple #[])) (fun v6 w =>
  LiftU Try.prog (Instr.storeAt 58 v6 v15) (fun v_ w =>
  LiftP Try.prog (Op.unary Go.UnOp.not v16) (fun v18 w =>
  CondP v18 (fun w =>
    LiftP Try.prog (Instr.build 58 #[]) (fun v19 w =>
    LiftU Try.prog (Instr.storeAt 58 v4 v19) (fun v__1 w =>
    RetC Try.prog v4 58 (fun x => R (.tuple #[x, (Go.Value.int Go.IntKind.i64 7)]) w) w) w) w) (fun w =>
    NextP Try.prog (nilChk a0) (fun v21 w =>
  LiftP Try.prog (Instr.fieldAt 118 v21 0) (fun v22 w =>
  LiftP Try.prog (Instr.loadAt 116 v22) (fun v23 w =>
  NextP Try.prog (builtin Go.Builtin.delete #[116, 3] 0 #[false, false] #[v23, a1]) (fun v__2 w =>
  LiftP Try.prog (Instr.loadAt 58 v6) (fun v25 w =>
  LiftU Try.prog (Instr.storeAt 58 v4 v25) (fun v__3 w =>
  RetC Try.prog v4 58 (fun x_1 => R (.tuple #[x_1, (Go.Value.int Go.IntKind.i64 0)]) w) w) w) w) w) w) w) w) w) w) w) w) w) w) w) w) w) w) w
theorem S33.calls (a0 a1 : Value) (R : Value → World → Prop) (w : World) (h : S33 a0 a1 R w) : Calls Try.prog 33 #[a0, a1] w fun e w' => ∃ v, e = .returned v ∧ R v w' :=
  calls_of_tr (n := 26) (c := bodyOf Try.f33) (.two .leaf (.two .leaf (.two (.two .leaf (.two (.two .leaf .leaf) .leaf)) (.two .leaf (.two .leaf .leaf))))) Try.func33 (by kernel_rfl) Try.ntmps33 (by kernel_rfl) (by kernel_rfl) [a0, a1] (by kernel_rfl) (of_eq_ (by kernel_rfl) h)

/-- (*shelfmark/net.Net).Drop -/
def S39 (a0 a1 : Value) (R : Value → World → Prop) (w : World) : Prop :=
  CallP Try.prog 33 #[a0, a1] (fun v10 w =>
  LiftP Try.prog (Instr.extract v10 0) (fun v11 w =>
  LiftP Try.prog (Instr.extract v10 1) (fun v12 w =>
  LiftP Try.prog (Instr.alloc 58 true (.tuple #[])) (fun v5 w =>
  LiftU Try.prog (Instr.storeAt 58 v5 v11) (fun v_ w =>
  R v12 w) w) w) w) w) w
theorem S39.calls (a0 a1 : Value) (R : Value → World → Prop) (w : World) (h : S39 a0 a1 R w) : Calls Try.prog 39 #[a0, a1] w fun e w' => ∃ v, e = .returned v ∧ R v w' :=
  calls_of_tr (n := 14) (c := bodyOf Try.f39) (.two .leaf (.two .leaf (.two .leaf .leaf))) Try.func39 (by kernel_rfl) Try.ntmps39 (by kernel_rfl) (by kernel_rfl) [a0, a1] (by kernel_rfl) (of_eq_ (by kernel_rfl) h)

/-- (*shelfmark/net.Net).add -/
def S60 (a0 a1 : Value) (R : Value → World → Prop) (w : World) : Prop :=
  LiftP Try.prog (Instr.box 58 a1) (fun v3 w =>
  NextP Try.prog (nilChk a0) (fun v7 w =>
  LiftP Try.prog (Instr.fieldAt 118 v7 0) (fun v8 w =>
  LiftP Try.prog (Instr.loadAt 116 v8) (fun v9 w =>
  NextP Try.prog (builtin Go.Builtin.len #[116] 3 #[false] #[v9]) (fun v10 w =>
  LiftP Try.prog (binS Go.BinOp.geq 3 (Go.Operand.tmp 10) (Go.Operand.const (Go.Value.int Go.IntKind.i64 4096)) v10 (Go.Value.int Go.IntKind.i64 4096)) (fun v11 w =>
  CondP v11 (fun w =>
    R (.tuple #[(Go.Value.int Go.IntKind.i64 0), (Go.Value.int Go.IntKind.i64 17)]) w) (fun w =>
    NextP Try.prog (nilChk a0) (fun v13 w =>
  LiftP Try.prog (Instr.fieldAt 118 v13 1) (fun v14 w =>
  LiftP Try.prog (Instr.loadAt 3 v14) (fun v15 w =>
  LiftP Try.prog (binS Go.BinOp.add 3 (Go.Operand.tmp 15) (Go.Operand.const (Go.Value.int Go.IntKind.i64 1)) v15 (Go.Value.int Go.IntKind.i64 1)) (fun v16 w =>
  NextP Try.prog (nilChk a0) (fun v17 w =>
  LiftP Try.prog (Instr.fieldAt 118 v17 1) (fun v18 w =>
  LiftU Try.prog (Instr.storeAt 3 v18 v16) (fun v_ w =>
  DrawP (fun S w =>
  YieldN Try.prog S (nilChk a0) (fun v20 w =>
  YieldP Try.prog S (Instr.fieldAt 118 v20 0) (fun v21 w =>
  YieldP Try.prog S (Instr.loadAt 116 v21) (fun v22 w =>
  YieldN Try.prog S (nilChk a0) (fun v24 w =>
  YieldP Try.prog S (Instr.fieldAt 118 v24 1) (fun v25 w =>
  YieldP Try.prog S (Instr.loadAt 3 v25) (fun v26 w =>
  YieldP Try.prog S (Instr.loadAt 58 v3) (fun v27 w =>
  ActP S (fun K w => CallP Try.prog 61 #[v27] K w) (fun S v28 w =>
  LiftU Try.prog (Instr.mapUpdate 116 v22 v26 v28) (fun v__1 w =>
  NextP Try.prog (nilChk a0) (fun v30 w =>
  LiftP Try.prog (Instr.fieldAt 118 v30 1) (fun v31 w =>
  LiftP Try.prog (Instr.loadAt 3 v31) (fun v32 w =>
  R (.tuple #[v32, (Go.Value.int Go.IntKind.i64 0)]) w) w) w) w) w) w) w) w) w) w) w) w) w) w) w) w) w) w) w) w) w) w) w) w) w) w) w) w
theorem S60.calls (a0 a1 : Value) (R : Value → World → Prop) (w : World) (h : S60 a0 a1 R w) : Calls Try.prog 60 #[a0, a1] w fun e w' => ∃ v, e = .returned v ∧ R v w' :=
  calls_of_tr (n := 33) (c := bodyOf Try.f60) (.two .leaf (.two (.two .leaf (.two (.two .leaf .leaf) .leaf)) (.two .leaf (.two (.drawL [(true, 0), (true, 1), (true, 2), (true, 3), (true, 4), (true, 5), (true, 6), (true, 7), (true, 8), (false, 9)] 10) (.two .leaf .leaf))))) Try.func60 (by kernel_rfl) Try.ntmps60 (by kernel_rfl) (by kernel_rfl) [a0, a1] (by kernel_rfl) (of_eq_ (by kernel_rfl) h)

end Go.Proofs.Ythicbfopjakiiaa.E
namespace Go.Proofs.Ythicbfopjakiiaa.E
open Go
set_option maxRecDepth 100000

end Go.Proofs.Ythicbfopjakiiaa.E
