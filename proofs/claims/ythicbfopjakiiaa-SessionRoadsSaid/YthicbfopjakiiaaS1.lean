import Derived.Test.YthicbfopjakiiaaM1
import Derived.Test.YthicbfopjakiiaaProg
import Derived.KernelRfl
namespace Go.Proofs.Ythicbfopjakiiaa.E
open Go
set_option maxRecDepth 100000

/-- shelfmark/shelfmarklaw15.awake -/
def S11 (R : Value → World → Prop) (w : World) : Prop :=
  CallP Try.prog 12 #[] (fun v7 w =>
  LiftP Try.prog (binS Go.BinOp.eql 23 (Go.Operand.tmp 8) (Go.Operand.const (Go.Value.pointer none)) v7 (Go.Value.pointer none)) (fun v9 w =>
  CondP v9 (fun w =>
    R (Go.Value.bool false) w) (fun w =>
    CallP Try.prog 13 #[v7, (Go.Value.string { data := #[97] })] (fun v12 w =>
  LiftP Try.prog (Instr.extract v12 0) (fun v13 w =>
  LiftP Try.prog (Instr.extract v12 1) (fun v14 w =>
  CallP Try.prog 13 #[v7, (Go.Value.string { data := #[98] })] (fun v17 w =>
  LiftP Try.prog (Instr.extract v17 0) (fun v18 w =>
  LiftP Try.prog (Instr.extract v17 1) (fun v19 w =>
  CallP Try.prog 22 #[v7, (Go.Value.int Go.IntKind.i64 1)] (fun v21 w =>
  LiftP Try.prog (binS Go.BinOp.eql 3 (Go.Operand.tmp 22) (Go.Operand.const (Go.Value.int Go.IntKind.i64 1)) v13 (Go.Value.int Go.IntKind.i64 1)) (fun v23 w =>
  GuardP v23 true (fun K w => K v18 w) (fun v25 w =>
  GuardP v23 true (fun K w => LiftP Try.prog (binS Go.BinOp.eql 3 (Go.Operand.tmp 25) (Go.Operand.const (Go.Value.int Go.IntKind.i64 2)) v25 (Go.Value.int Go.IntKind.i64 2)) K w) (fun v26 w =>
  PickP v23 v26 (Go.Value.bool false) (fun v27 w =>
  GuardP v27 true (fun K w => K v14 w) (fun v29 w =>
  GuardP v27 true (fun K w => LiftP Try.prog (binS Go.BinOp.eql 25 (Go.Operand.tmp 29) (Go.Operand.const (Go.Value.int Go.IntKind.i64 0)) v29 (Go.Value.int Go.IntKind.i64 0)) K w) (fun v30 w =>
  PickP v27 v30 (Go.Value.bool false) (fun v31 w =>
  GuardP v31 true (fun K w => K v19 w) (fun v33 w =>
  GuardP v31 true (fun K w => LiftP Try.prog (binS Go.BinOp.eql 25 (Go.Operand.tmp 33) (Go.Operand.const (Go.Value.int Go.IntKind.i64 0)) v33 (Go.Value.int Go.IntKind.i64 0)) K w) (fun v34 w =>
  PickP v31 v34 (Go.Value.bool false) (fun v35 w =>
  GuardP v35 true (fun K w => K v21 w) (fun v37 w =>
  GuardP v35 true (fun K w => NextP Try.prog (builtin Go.Builtin.len #[44] 3 #[false] #[v37]) K w) (fun v38 w =>
  GuardP v35 true (fun K w => LiftP Try.prog (binS Go.BinOp.eql 3 (Go.Operand.tmp 38) (Go.Operand.const (Go.Value.int Go.IntKind.i64 1)) v38 (Go.Value.int Go.IntKind.i64 1)) K w) (fun v39 w =>
  PickP v35 v39 (Go.Value.bool false) (fun v40 w =>
  GuardP v40 true (fun K w => K v21 w) (fun v42 w =>
  GuardP v40 true (fun K w => LiftP Try.prog (Instr.indexAt 44 v42 (Go.Value.int Go.IntKind.i64 0)) K w) (fun v43 w =>
  GuardP v40 true (fun K w => LiftP Try.prog (Instr.fieldAt 99 v43 0) K w) (fun v44 w =>
  GuardP v40 true (fun K w => LiftP Try.prog (Instr.loadAt 3 v44) K w) (fun v45 w =>
  GuardP v40 true (fun K w => LiftP Try.prog (binS Go.BinOp.eql 3 (Go.Operand.tmp 45) (Go.Operand.const (Go.Value.int Go.IntKind.i64 1)) v45 (Go.Value.int Go.IntKind.i64 1)) K w) (fun v46 w =>
  PickP v40 v46 (Go.Value.bool false) (fun v47 w =>
  GuardP v47 true (fun K w => K v21 w) (fun v49 w =>
  GuardP v47 true (fun K w => LiftP Try.prog (Instr.indexAt 44 v49 (Go.Value.int Go.IntKind.i64 0)) K w) (fun v50 w =>
  GuardP v47 true (fun K w => LiftP Try.prog (Instr.fieldAt 99 v50 1) K w) (fun v51 w =>
  GuardP v47 true (fun K w => LiftP Try.prog (Instr.loadAt 9 v51) K w) (fun v52 w =>
  GuardP v47 true (fun K w => LiftP Try.prog (binS Go.BinOp.eql 9 (Go.Operand.tmp 52) (Go.Operand.const (Go.Value.string { data := #[97] })) v52 (Go.Value.string { data := #[97] })) K w) (fun v53 w =>
  PickP v47 v53 (Go.Value.bool false) (fun v54 w =>
  GuardP v54 true (fun K w => K v7 w) (fun v56 w =>
  GuardP v54 true (fun K w => CallP Try.prog 24 #[v56, (Go.Value.int Go.IntKind.i64 2), (Go.Value.string { data := #[120] })] K w) (fun v57 w =>
  GuardP v54 true (fun K w => LiftP Try.prog (Op.unary Go.UnOp.not v57) K w) (fun v58 w =>
  PickP v54 v58 (Go.Value.bool false) (fun v59 w =>
  GuardP v59 true (fun K w => K v7 w) (fun v61 w =>
  GuardP v59 true (fun K w => CallP Try.prog 24 #[v61, (Go.Value.int Go.IntKind.i64 1), (Go.Value.string { data := #[121] })] K w) (fun v62 w =>
  PickP v59 v62 (Go.Value.bool false) (fun v63 w =>
  GuardP v63 true (fun K w => K v7 w) (fun v65 w =>
  GuardP v63 true (fun K w => CallP Try.prog 15 #[v65, (Go.Value.int Go.IntKind.i64 1)] K w) (fun v66 w =>
  GuardP v63 true (fun K w => LiftP Try.prog (binS Go.BinOp.eql 3 (Go.Operand.tmp 66) (Go.Operand.const (Go.Value.int Go.IntKind.i64 1)) v66 (Go.Value.int Go.IntKind.i64 1)) K w) (fun v67 w =>
  PickP v63 v67 (Go.Value.bool false) (fun v68 w =>
  GuardP v68 true (fun K w => K v7 w) (fun v70 w =>
  GuardP v68 true (fun K w => CallP Try.prog 19 #[v70] K w) (fun v71 w =>
  GuardP v68 true (fun K w => LiftP Try.prog (binS Go.BinOp.eql 9 (Go.Operand.tmp 71) (Go.Operand.const (Go.Value.string { data := #[1, 2, 1, 1, 98] })) v71 (Go.Value.string { data := #[1, 2, 1, 1, 98] })) K w) (fun v72 w =>
  PickP v68 v72 (Go.Value.bool false) (fun v73 w =>
  R v73 w) w) w) w) w) w) w) w) w) w) w) w) w) w) w) w) w) w) w) w) w) w) w) w) w) w) w) w) w) w) w) w) w) w) w) w) w) w) w) w) w) w) w) w) w) w) w) w) w) w) w) w
theorem S11.calls (R : Value → World → Prop) (w : World) (h : S11 R w) : Calls Try.prog 11 #[] w fun e w' => ∃ v, e = .returned v ∧ R v w' :=
  calls_of_tr (n := 74) (c := bodyOf Try.f11) (.two .leaf (.two .leaf (.two (.two .leaf (.two (.two .leaf .leaf) .leaf)) (.two .leaf (.two .leaf (.two .leaf (.two .leaf .leaf))))))) Try.func11 (by kernel_rfl) Try.ntmps11 (by kernel_rfl) (by kernel_rfl) [] (by kernel_rfl) (of_eq_ (by kernel_rfl) h)

/-- shelfmark/session.New -/
def S12 (R : Value → World → Prop) (w : World) : Prop :=
  LiftP Try.prog (Instr.build 101 #[]) (fun v1 w =>
  LiftP Try.prog (Instr.box 101 v1) (fun v2 w =>
  R v2 w) w) w
theorem S12.calls (R : Value → World → Prop) (w : World) (h : S12 R w) : Calls Try.prog 12 #[] w fun e w' => ∃ v, e = .returned v ∧ R v w' :=
  calls_of_tr (n := 3) (c := bodyOf Try.f12) (.two .leaf (.two .leaf .leaf)) Try.func12 (by kernel_rfl) Try.ntmps12 (by kernel_rfl) (by kernel_rfl) [] (by kernel_rfl) (of_eq_ (by kernel_rfl) h)

/-- (*shelfmark/session.End).Send -/
def S13 (a0 a1 : Value) (R : Value → World → Prop) (w : World) : Prop :=
  NextP Try.prog (builtin Go.Builtin.len #[9] 3 #[false] #[a1]) (fun v8 w =>
  LiftP Try.prog (binS Go.BinOp.gtr 3 (Go.Operand.tmp 8) (Go.Operand.const (Go.Value.int Go.IntKind.i64 65536)) v8 (Go.Value.int Go.IntKind.i64 65536)) (fun v9 w =>
  CondP v9 (fun w =>
    R (.tuple #[(Go.Value.int Go.IntKind.i64 0), (Go.Value.int Go.IntKind.i64 4)]) w) (fun w =>
    JoinP (fun J w =>
      NextP Try.prog (nilChk a0) (fun v12 w =>
      LiftP Try.prog (Instr.fieldAt 101 v12 2) (fun v13 w =>
      LiftP Try.prog (Instr.loadAt 37 v13) (fun v14 w =>
      NextP Try.prog (builtin Go.Builtin.len #[37] 3 #[false] #[v14]) (fun v15 w =>
      LiftP Try.prog (binS Go.BinOp.geq 3 (Go.Operand.tmp 15) (Go.Operand.const (Go.Value.int Go.IntKind.i64 256)) v15 (Go.Value.int Go.IntKind.i64 256)) (fun v16 w =>
      CondP v16 (fun w =>
        J [v16] w) (fun w =>
        NextP Try.prog (nilChk a0) (fun v18 w =>
        LiftP Try.prog (Instr.fieldAt 101 v18 1) (fun v19 w =>
        LiftP Try.prog (Instr.loadAt 3 v19) (fun v20 w =>
        LiftP Try.prog (binS Go.BinOp.geq 3 (Go.Operand.tmp 20) (Go.Operand.const (Go.Value.int Go.IntKind.i64 1099511627776)) v20 (Go.Value.int Go.IntKind.i64 1099511627776)) (fun v21 w =>
        J [v21] w) w) w) w) w) w) w) w) w) w) w) (fun vs w =>   -- [10]
    CondP (vs.headD undef) (fun w =>
      R (.tuple #[(Go.Value.int Go.IntKind.i64 0), (Go.Value.int Go.IntKind.i64 17)]) w) (fun w =>
      NextP Try.prog (nilChk a0) (fun v23 w =>
  LiftP Try.prog (Instr.fieldAt 101 v23 1) (fun v24 w =>
  LiftP Try.prog (Instr.loadAt 3 v24) (fun v25 w =>
  LiftP Try.prog (binS Go.BinOp.add 3 (Go.Operand.tmp 25) (Go.Operand.const (Go.Value.int Go.IntKind.i64 1)) v25 (Go.Value.int Go.IntKind.i64 1)) (fun v26 w =>
  NextP Try.prog (nilChk a0) (fun v27 w =>
  LiftP Try.prog (Instr.fieldAt 101 v27 1) (fun v28 w =>
  LiftU Try.prog (Instr.storeAt 3 v28 v26) (fun v_ w =>
  NextP Try.prog (nilChk a0) (fun v31 w =>
  LiftP Try.prog (Instr.fieldAt 101 v31 2) (fun v32 w =>
  LiftP Try.prog (Instr.loadAt 37 v32) (fun v33 w =>
  LiftP Try.prog (Instr.buildSlice 37 1 #[(0, a1)]) (fun v35 w =>
  NextP Try.prog (builtin Go.Builtin.append #[37, 37] 37 #[false, false] #[v33, v35]) (fun v36 w =>
  NextP Try.prog (nilChk a0) (fun v37 w =>
  LiftP Try.prog (Instr.fieldAt 101 v37 2) (fun v38 w =>
  LiftU Try.prog (Instr.storeAt 37 v38 v36) (fun v__1 w =>
  NextP Try.prog (nilChk a0) (fun v40 w =>
  LiftP Try.prog (Instr.fieldAt 101 v40 1) (fun v41 w =>
  LiftP Try.prog (Instr.loadAt 3 v41) (fun v42 w =>
  R (.tuple #[v42, (Go.Value.int Go.IntKind.i64 0)]) w) w) w) w) w) w) w) w) w) w) w) w) w) w) w) w) w) w) w) w) w) w) w) w
theorem S13.calls (a0 a1 : Value) (R : Value → World → Prop) (w : World) (h : S13 a0 a1 R w) : Calls Try.prog 13 #[a0, a1] w fun e w' => ∃ v, e = .returned v ∧ R v w' :=
  calls_of_tr (n := 43) (c := bodyOf Try.f13) (.two .leaf (.two (.one (.two .leaf (.two (.two .leaf .leaf) (.join [10] (.two .leaf (.two .leaf .leaf)) (.two (.two .leaf .leaf) .leaf))))) (.two .leaf (.two .leaf (.two .leaf .leaf))))) Try.func13 (by kernel_rfl) Try.ntmps13 (by kernel_rfl) (by kernel_rfl) [a0, a1] (by kernel_rfl) (of_eq_ (by kernel_rfl) h)

/-- (*shelfmark/session.End).Waiting -/
def S14 (a0 : Value) (R : Value → World → Prop) (w : World) : Prop :=
  NextP Try.prog (nilChk a0) (fun v4 w =>
  LiftP Try.prog (Instr.fieldAt 101 v4 2) (fun v5 w =>
  LiftP Try.prog (Instr.loadAt 37 v5) (fun v6 w =>
  NextP Try.prog (builtin Go.Builtin.len #[37] 3 #[false] #[v6]) (fun v7 w =>
  R v7 w) w) w) w) w
theorem S14.calls (a0 : Value) (R : Value → World → Prop) (w : World) (h : S14 a0 R w) : Calls Try.prog 14 #[a0] w fun e w' => ∃ v, e = .returned v ∧ R v w' :=
  calls_of_tr (n := 8) (c := bodyOf Try.f14) (.two .leaf (.two .leaf .leaf)) Try.func14 (by kernel_rfl) Try.ntmps14 (by kernel_rfl) (by kernel_rfl) [a0] (by kernel_rfl) (of_eq_ (by kernel_rfl) h)

/-- (*shelfmark/session.End).Acked -/
def S15 (a0 a1 : Value) (R : Value → World → Prop) (w : World) : Prop :=
  CallP Try.prog 49 #[a0] (fun v8 w =>
  LiftP Try.prog (binS Go.BinOp.lss 3 (Go.Operand.tmp 6) (Go.Operand.tmp 8) a1 v8) (fun v9 w =>
  GuardP v9 false (fun K w => K a1 w) (fun v11 w =>
  GuardP v9 false (fun K w => K a0 w) (fun v12 w =>
  GuardP v9 false (fun K w => NextP Try.prog (nilChk v12) K w) (fun v13 w =>
  GuardP v9 false (fun K w => LiftP Try.prog (Instr.fieldAt 101 v13 1) K w) (fun v14 w =>
  GuardP v9 false (fun K w => LiftP Try.prog (Instr.loadAt 3 v14) K w) (fun v15 w =>
  GuardP v9 false (fun K w => LiftP Try.prog (binS Go.BinOp.gtr 3 (Go.Operand.tmp 11) (Go.Operand.tmp 15) v11 v15) K w) (fun v16 w =>
  PickP v9 (Go.Value.bool true) v16 (fun v17 w =>
  CondP v17 (fun w =>
    R (Go.Value.int Go.IntKind.i64 0) w) (fun w =>
    CallP Try.prog 49 #[a0] (fun v20 w =>
  LiftP Try.prog (binS Go.BinOp.sub 3 (Go.Operand.tmp 18) (Go.Operand.tmp 20) a1 v20) (fun v21 w =>
  LiftP Try.prog (binS Go.BinOp.add 3 (Go.Operand.tmp 21) (Go.Operand.const (Go.Value.int Go.IntKind.i64 1)) v21 (Go.Value.int Go.IntKind.i64 1)) (fun v22 w =>
  NextP Try.prog (nilChk a0) (fun v25 w =>
  LiftP Try.prog (Instr.fieldAt 101 v25 2) (fun v26 w =>
  LiftP Try.prog (Instr.loadAt 37 v26) (fun v27 w =>
  LiftP Try.prog (Instr.sliceAt 37 v27 (some v22) none none) (fun v29 w =>
  NextP Try.prog (builtin Go.Builtin.append #[37, 37] 37 #[true, false] #[(Go.Value.slice none 0 0), v29]) (fun v30 w =>
  NextP Try.prog (nilChk a0) (fun v31 w =>
  LiftP Try.prog (Instr.fieldAt 101 v31 2) (fun v32 w =>
  LiftU Try.prog (Instr.storeAt 37 v32 v30) (fun v_ w =>
  R v22 w) w) w) w) w) w) w) w) w) w) w) w) w) w) w) w) w) w) w) w) w) w
theorem S15.calls (a0 a1 : Value) (R : Value → World → Prop) (w : World) (h : S15 a0 a1 R w) : Calls Try.prog 15 #[a0, a1] w fun e w' => ∃ v, e = .returned v ∧ R v w' :=
  calls_of_tr (n := 34) (c := bodyOf Try.f15) (.two .leaf (.two (.two .leaf (.two (.two .leaf .leaf) .leaf)) (.two .leaf (.two .leaf (.two .leaf .leaf))))) Try.func15 (by kernel_rfl) Try.ntmps15 (by kernel_rfl) (by kernel_rfl) [a0, a1] (by kernel_rfl) (of_eq_ (by kernel_rfl) h)

/-- (*shelfmark/session.End).Save -/
def S19 (a0 : Value) (R : Value → World → Prop) (w : World) : Prop :=
  DrawP (fun S w =>
  YieldN Try.prog S (nilChk a0) (fun v4 w =>
  YieldP Try.prog S (Instr.fieldAt 101 v4 0) (fun v5 w =>
  YieldP Try.prog S (Instr.loadAt 3 v5) (fun v6 w =>
  YieldN Try.prog S (nilChk a0) (fun v9 w =>
  YieldP Try.prog S (Instr.fieldAt 101 v9 1) (fun v10 w =>
  YieldP Try.prog S (Instr.loadAt 3 v10) (fun v11 w =>
  YieldN Try.prog S (nilChk a0) (fun v14 w =>
  YieldP Try.prog S (Instr.fieldAt 101 v14 2) (fun v15 w =>
  YieldP Try.prog S (Instr.loadAt 37 v15) (fun v16 w =>
  ActP S (fun K w => CallP Try.prog 55 #[v6] K w) (fun S v7 w =>
  ActP S (fun K w => CallP Try.prog 55 #[v11] K w) (fun S v12 w =>
  ActP S (fun K w => CallP Try.prog 56 #[v16] K w) (fun S v17 w =>
  ActP S (fun K w => LiftP Try.prog (Instr.buildSlice 133 3 #[(0, v7), (1, v12), (2, v17)]) K w) (fun S v18 w =>
  ActP S (fun K w => CallP Try.prog 54 #[v18] K w) (fun S v19 w =>
  YieldP Try.prog S (convert 30 9 v19) (fun v20 w =>
  R v20 w) w) w) w) w) w) w) w) w) w) w) w) w) w) w) w) w
theorem S19.calls (a0 : Value) (R : Value → World → Prop) (w : World) (h : S19 a0 R w) : Calls Try.prog 19 #[a0] w fun e w' => ∃ v, e = .returned v ∧ R v w' :=
  calls_of_tr (n := 21) (c := bodyOf Try.f19) (.two .leaf (.two (.draw [(true, 0), (true, 1), (true, 2), (true, 3), (true, 5), (true, 6), (true, 7), (true, 8), (true, 10), (true, 11), (true, 12), (true, 13), (false, 4), (false, 9), (false, 14), (false, 15), (false, 16), (true, 17), (true, 18)]) .leaf)) Try.func19 (by kernel_rfl) Try.ntmps19 (by kernel_rfl) (by kernel_rfl) [a0] (by kernel_rfl) (of_eq_ (by kernel_rfl) h)

/-- (*shelfmark/session.End).Post -/
def S22 (a0 a1 : Value) (R : Value → World → Prop) (w : World) : Prop :=
  DrawP (fun S w =>
  YieldN Try.prog S (nilChk a0) (fun v9 w =>
  YieldP Try.prog S (Instr.fieldAt 101 v9 2) (fun v10 w =>
  YieldP Try.prog S (Instr.loadAt 37 v10) (fun v11 w =>
  YieldN Try.prog S (builtin Go.Builtin.max #[3, 3] 3 #[false, true] #[a1, (Go.Value.int Go.IntKind.i64 0)]) (fun v13 w =>
  YieldN Try.prog S (nilChk a0) (fun v15 w =>
  YieldP Try.prog S (Instr.fieldAt 101 v15 2) (fun v16 w =>
  YieldP Try.prog S (Instr.loadAt 37 v16) (fun v17 w =>
  YieldN Try.prog S (builtin Go.Builtin.len #[37] 3 #[false] #[v17]) (fun v18 w =>
  YieldN Try.prog S (builtin Go.Builtin.min #[3, 3] 3 #[false, false] #[v13, v18]) (fun v19 w =>
  YieldP Try.prog S (Instr.sliceAt 37 v11 none (some v19) none) (fun v20 w =>
  YieldN Try.prog S (builtin Go.Builtin.len #[37] 3 #[false] #[v20]) (fun v21 w =>
  LoopP (fun J vs w =>   -- [5, 22]
    LiftP Try.prog (binS Go.BinOp.lss 3 (Go.Operand.tmp 22) (Go.Operand.tmp 21) (vs.tail.headD undef) v21) (fun v23 w =>
    CondP v23 (fun w =>
      LiftP Try.prog (Instr.indexAt 37 v20 (vs.tail.headD undef)) (fun v25 w =>
    LiftP Try.prog (Instr.loadAt 9 v25) (fun v26 w =>
    CallP Try.prog 49 #[a0] (fun v29 w =>
    LiftP Try.prog (binS Go.BinOp.add 3 (Go.Operand.tmp 29) (Go.Operand.tmp 30) v29 (vs.tail.headD undef)) (fun v31 w =>
    LiftP Try.prog (Instr.build 99 #[(0, v31), (1, v26)]) (fun v33 w =>
    LiftP Try.prog (Instr.buildSlice 44 1 #[(0, v33)]) (fun v34 w =>
    NextP Try.prog (builtin Go.Builtin.append #[44, 44] 44 #[false, false] #[(vs.headD undef), v34]) (fun v35 w =>
    LiftP Try.prog (binS Go.BinOp.add 3 (Go.Operand.tmp 22) (Go.Operand.const (Go.Value.int Go.IntKind.i64 1)) (vs.tail.headD undef) (Go.Value.int Go.IntKind.i64 1)) (fun v36 w =>
    J [v35, v36] w) w) w) w) w) w) w) w) w) (fun w =>
      R (vs.headD undef) w) w) w) [(Go.Value.slice none 0 0), (Go.Value.int Go.IntKind.i64 0)] w) w) w) w) w) w) w) w) w) w) w) w) w
theorem S22.calls (a0 a1 : Value) (R : Value → World → Prop) (w : World) (h : S22 a0 a1 R w) : Calls Try.prog 22 #[a0, a1] w fun e w' => ∃ v, e = .returned v ∧ R v w' :=
  calls_of_tr (n := 38) (c := bodyOf Try.f22) (.two .leaf (.two .leaf (.two (.two (.draw [(true, 0), (true, 1), (true, 2), (true, 3), (true, 4), (true, 5), (true, 6), (true, 7), (true, 8), (true, 9), (true, 10), (true, 11), (true, 12), (true, 13), (true, 14)]) (.one (.loop [5, 22] (.two .leaf (.two (.two .leaf .leaf) (.two (.one (.two .leaf .leaf)) .leaf)))))) (.two .leaf .leaf)))) Try.func22 (by kernel_rfl) Try.ntmps22 (by kernel_rfl) (by kernel_rfl) [a0, a1] (by kernel_rfl) (of_eq_ (by kernel_rfl) h)

/-- (*shelfmark/session.End).Take -/
def S24 (a0 a1 a2 : Value) (R : Value → World → Prop) (w : World) : Prop :=
  LiftP Try.prog (binS Go.BinOp.sub 3 (Go.Operand.tmp 7) (Go.Operand.const (Go.Value.int Go.IntKind.i64 1)) a1 (Go.Value.int Go.IntKind.i64 1)) (fun v8 w =>
  NextP Try.prog (nilChk a0) (fun v10 w =>
  LiftP Try.prog (Instr.fieldAt 101 v10 0) (fun v11 w =>
  LiftP Try.prog (Instr.loadAt 3 v11) (fun v12 w =>
  LiftP Try.prog (binS Go.BinOp.neq 3 (Go.Operand.tmp 8) (Go.Operand.tmp 12) v8 v12) (fun v13 w =>
  GuardP v13 false (fun K w => K a1 w) (fun v15 w =>
  GuardP v13 false (fun K w => LiftP Try.prog (binS Go.BinOp.gtr 3 (Go.Operand.tmp 15) (Go.Operand.const (Go.Value.int Go.IntKind.i64 1099511627776)) v15 (Go.Value.int Go.IntKind.i64 1099511627776)) K w) (fun v16 w =>
  PickP v13 (Go.Value.bool true) v16 (fun v17 w =>
  CondP v17 (fun w =>
    R (Go.Value.bool false) w) (fun w =>
    NextP Try.prog (nilChk a0) (fun v20 w =>
  LiftP Try.prog (Instr.fieldAt 101 v20 0) (fun v21 w =>
  LiftU Try.prog (Instr.storeAt 3 v21 a1) (fun v_ w =>
  R (Go.Value.bool true) w) w) w) w) w) w) w) w) w) w) w) w) w
theorem S24.calls (a0 a1 a2 : Value) (R : Value → World → Prop) (w : World) (h : S24 a0 a1 a2 R w) : Calls Try.prog 24 #[a0, a1, a2] w fun e w' => ∃ v, e = .returned v ∧ R v w' :=
  calls_of_tr (n := 22) (c := bodyOf Try.f24) (.two .leaf (.two (.two .leaf (.two (.two .leaf .leaf) .leaf)) (.two .leaf (.two .leaf .leaf)))) Try.func24 (by kernel_rfl) Try.ntmps24 (by kernel_rfl) (by kernel_rfl) [a0, a1, a2] (by kernel_rfl) (of_eq_ (by kernel_rfl) h)

/-- (*shelfmark/session.End).first -/
def S49 (a0 : Value) (R : Value → World → Prop) (w : World) : Prop :=
  DrawP (fun S w =>
  YieldN Try.prog S (nilChk a0) (fun v4 w =>
  YieldP Try.prog S (Instr.fieldAt 101 v4 1) (fun v5 w =>
  YieldP Try.prog S (Instr.loadAt 3 v5) (fun v6 w =>
  YieldN Try.prog S (nilChk a0) (fun v8 w =>
  YieldP Try.prog S (Instr.fieldAt 101 v8 2) (fun v9 w =>
  YieldP Try.prog S (Instr.loadAt 37 v9) (fun v10 w =>
  YieldN Try.prog S (builtin Go.Builtin.len #[37] 3 #[false] #[v10]) (fun v11 w =>
  YieldP Try.prog S (binS Go.BinOp.sub 3 (Go.Operand.tmp 6) (Go.Operand.tmp 11) v6 v11) (fun v12 w =>
  YieldP Try.prog S (binS Go.BinOp.add 3 (Go.Operand.tmp 12) (Go.Operand.const (Go.Value.int Go.IntKind.i64 1)) v12 (Go.Value.int Go.IntKind.i64 1)) (fun v13 w =>
  R v13 w) w) w) w) w) w) w) w) w) w) w
theorem S49.calls (a0 : Value) (R : Value → World → Prop) (w : World) (h : S49 a0 R w) : Calls Try.prog 49 #[a0] w fun e w' => ∃ v, e = .returned v ∧ R v w' :=
  calls_of_tr (n := 14) (c := bodyOf Try.f49) (.two .leaf (.two (.draw [(true, 0), (true, 1), (true, 2), (true, 3), (true, 4), (true, 5), (true, 6), (true, 7), (true, 8), (true, 9), (true, 10), (true, 11)]) .leaf)) Try.func49 (by kernel_rfl) Try.ntmps49 (by kernel_rfl) (by kernel_rfl) [a0] (by kernel_rfl) (of_eq_ (by kernel_rfl) h)

/-- shelfmark/pack.Join -/
def S54 (a0 : Value) (R : Value → World → Prop) (w : World) : Prop :=
  CallP Try.prog 71 #[a0] (fun v4 w =>
  R v4 w) w
theorem S54.calls (a0 : Value) (R : Value → World → Prop) (w : World) (h : S54 a0 R w) : Calls Try.prog 54 #[a0] w fun e w' => ∃ v, e = .returned v ∧ R v w' :=
  calls_of_tr (n := 5) (c := bodyOf Try.f54) (.two .leaf (.two .leaf .leaf)) Try.func54 (by kernel_rfl) Try.ntmps54 (by kernel_rfl) (by kernel_rfl) [a0] (by kernel_rfl) (of_eq_ (by kernel_rfl) h)

/-- shelfmark/pack.Num -/
def S55 (a0 : Value) (R : Value → World → Prop) (w : World) : Prop :=
  LiftP Try.prog (binS Go.BinOp.lss 3 (Go.Operand.tmp 4) (Go.Operand.const (Go.Value.int Go.IntKind.i64 0)) a0 (Go.Value.int Go.IntKind.i64 0)) (fun v5 w =>
  CondP v5 (fun w =>
    R (Go.Value.slice none 0 0) w) (fun w =>
    LoopP (fun J vs w =>   -- [0, 3]
    LiftP Try.prog (binS Go.BinOp.gtr 3 (Go.Operand.tmp 6) (Go.Operand.const (Go.Value.int Go.IntKind.i64 127)) (vs.headD undef) (Go.Value.int Go.IntKind.i64 127)) (fun v7 w =>
    CondP v7 (fun w =>
      LiftP Try.prog (convert 3 5 (vs.headD undef)) (fun v12 w =>
    LiftP Try.prog (binS Go.BinOp.or 5 (Go.Operand.tmp 12) (Go.Operand.const (Go.Value.int Go.IntKind.u8 128)) v12 (Go.Value.int Go.IntKind.u8 128)) (fun v13 w =>
    LiftP Try.prog (Instr.buildSlice 30 1 #[(0, v13)]) (fun v14 w =>
    NextP Try.prog (builtin Go.Builtin.append #[30, 30] 30 #[false, false] #[(vs.tail.headD undef), v14]) (fun v15 w =>
    LiftP Try.prog (binS Go.BinOp.shr 3 (Go.Operand.tmp 8) (Go.Operand.const (Go.Value.int Go.IntKind.u64 7)) (vs.headD undef) (Go.Value.int Go.IntKind.u64 7)) (fun v9 w =>
    J [v9, v15] w) w) w) w) w) w) (fun w =>
      LiftP Try.prog (convert 3 5 (vs.headD undef)) (fun v18 w =>
  LiftP Try.prog (Instr.buildSlice 30 1 #[(0, v18)]) (fun v19 w =>
  NextP Try.prog (builtin Go.Builtin.append #[30, 30] 30 #[false, false] #[(vs.tail.headD undef), v19]) (fun v20 w =>
  R v20 w) w) w) w) w) w) [a0, (Go.Value.slice none 0 0)] w) w) w
theorem S55.calls (a0 : Value) (R : Value → World → Prop) (w : World) (h : S55 a0 R w) : Calls Try.prog 55 #[a0] w fun e w' => ∃ v, e = .returned v ∧ R v w' :=
  calls_of_tr (n := 21) (c := bodyOf Try.f55) (.two .leaf (.two (.two .leaf (.two (.two .leaf .leaf) .leaf)) (.two .leaf (.two (.one (.loop [0, 3] (.two (.two .leaf (.two .leaf .leaf)) (.two (.one .leaf) .leaf)))) (.two .leaf .leaf))))) Try.func55 (by kernel_rfl) Try.ntmps55 (by kernel_rfl) (by kernel_rfl) [a0] (by kernel_rfl) (of_eq_ (by kernel_rfl) h)

/-- shelfmark/pack.Texts -/
def S56 (a0 : Value) (R : Value → World → Prop) (w : World) : Prop :=
  NextP Try.prog (builtin Go.Builtin.len #[37] 3 #[false] #[a0]) (fun v7 w =>
  CallP Try.prog 55 #[v7] (fun v8 w =>
  NextP Try.prog (builtin Go.Builtin.len #[37] 3 #[false] #[a0]) (fun v10 w =>
  LoopP (fun J vs w =>   -- [3, 11]
    LiftP Try.prog (binS Go.BinOp.lss 3 (Go.Operand.tmp 11) (Go.Operand.tmp 10) (vs.tail.headD undef) v10) (fun v12 w =>
    CondP v12 (fun w =>
      LiftP Try.prog (Instr.indexAt 37 a0 (vs.tail.headD undef)) (fun v13 w =>
    LiftP Try.prog (Instr.loadAt 9 v13) (fun v14 w =>
    CallP Try.prog 72 #[v14] (fun v17 w =>
    NextP Try.prog (builtin Go.Builtin.append #[30, 30] 30 #[false, false] #[(vs.headD undef), v17]) (fun v18 w =>
    LiftP Try.prog (binS Go.BinOp.add 3 (Go.Operand.tmp 11) (Go.Operand.const (Go.Value.int Go.IntKind.i64 1)) (vs.tail.headD undef) (Go.Value.int Go.IntKind.i64 1)) (fun v19 w =>
    J [v18, v19] w) w) w) w) w) w) (fun w =>
      R (vs.headD undef) w) w) w) [v8, (Go.Value.int Go.IntKind.i64 0)] w) w) w) w
theorem S56.calls (a0 : Value) (R : Value → World → Prop) (w : World) (h : S56 a0 R w) : Calls Try.prog 56 #[a0] w fun e w' => ∃ v, e = .returned v ∧ R v w' :=
  calls_of_tr (n := 21) (c := bodyOf Try.f56) (.two .leaf (.two .leaf (.two (.two .leaf (.one (.loop [3, 11] (.two .leaf (.two (.two .leaf .leaf) (.two (.one (.two .leaf .leaf)) .leaf)))))) (.two .leaf .leaf)))) Try.func56 (by kernel_rfl) Try.ntmps56 (by kernel_rfl) (by kernel_rfl) [a0] (by kernel_rfl) (of_eq_ (by kernel_rfl) h)

/-- slices.Concat[[]byte,byte] -/
def S71 (a0 : Value) (R : Value → World → Prop) (w : World) : Prop :=
  NextP Try.prog (builtin Go.Builtin.len #[133] 3 #[false] #[a0]) (fun v10 w =>
  LoopP (fun J vs w =>   -- [3, 11]
    LiftP Try.prog (binS Go.BinOp.lss 3 (Go.Operand.tmp 11) (Go.Operand.tmp 10) (vs.tail.headD undef) v10) (fun v12 w =>
    CondP v12 (fun w =>
      JoinP (fun J_1 w =>
      LiftP Try.prog (Instr.indexAt 133 a0 (vs.tail.headD undef)) (fun v13 w =>
      LiftP Try.prog (Instr.loadAt 30 v13) (fun v14 w =>
      NextP Try.prog (builtin Go.Builtin.len #[30] 3 #[false] #[v14]) (fun v17 w =>
      LiftP Try.prog (binS Go.BinOp.add 3 (Go.Operand.tmp 15) (Go.Operand.tmp 17) (vs.headD undef) v17) (fun v18 w =>
      LiftP Try.prog (binS Go.BinOp.lss 3 (Go.Operand.tmp 19) (Go.Operand.const (Go.Value.int Go.IntKind.i64 0)) v18 (Go.Value.int Go.IntKind.i64 0)) (fun v20 w =>
      CondP v20 (fun w =>
        LiftP Try.prog (Instr.makeInterface 9 (Go.Value.string { data := #[108, 101, 110, 32, 111, 117, 116, 32, 111, 102, 32, 114, 97, 110, 103, 101] })) (fun v21 w =>
        LiftP Try.prog (Instr.panic v21) (fun v_ w =>
        J_1 [v18] w) w) w) (fun w =>
        J_1 [v18] w) w) w) w) w) w) w) (fun vs_1 w =>   -- [3]
    LiftP Try.prog (binS Go.BinOp.add 3 (Go.Operand.tmp 11) (Go.Operand.const (Go.Value.int Go.IntKind.i64 1)) (vs.tail.headD undef) (Go.Value.int Go.IntKind.i64 1)) (fun v22 w =>
    J [(vs_1.headD undef), v22] w) w) w) (fun w =>
      CallP Try.prog 84 #[(Go.Value.slice none 0 0), (vs.headD undef)] (fun v24 w =>
  NextP Try.prog (builtin Go.Builtin.len #[133] 3 #[false] #[a0]) (fun v26 w =>
  LoopP (fun J_2 vs_2 w =>   -- [6, 27]
    LiftP Try.prog (binS Go.BinOp.lss 3 (Go.Operand.tmp 27) (Go.Operand.tmp 26) (vs_2.tail.headD undef) v26) (fun v28 w =>
    CondP v28 (fun w =>
      LiftP Try.prog (Instr.indexAt 133 a0 (vs_2.tail.headD undef)) (fun v29 w =>
    LiftP Try.prog (Instr.loadAt 30 v29) (fun v30 w =>
    NextP Try.prog (builtin Go.Builtin.append #[30, 30] 30 #[false, false] #[(vs_2.headD undef), v30]) (fun v33 w =>
    LiftP Try.prog (binS Go.BinOp.add 3 (Go.Operand.tmp 27) (Go.Operand.const (Go.Value.int Go.IntKind.i64 1)) (vs_2.tail.headD undef) (Go.Value.int Go.IntKind.i64 1)) (fun v34 w =>
    J_2 [v33, v34] w) w) w) w) w) (fun w =>
      R (vs_2.headD undef) w) w) w) [v24, (Go.Value.int Go.IntKind.i64 0)] w) w) w) w) w) [(Go.Value.int Go.IntKind.i64 0), (Go.Value.int Go.IntKind.i64 0)] w) w
theorem S71.calls (a0 : Value) (R : Value → World → Prop) (w : World) (h : S71 a0 R w) : Calls Try.prog 71 #[a0] w fun e w' => ∃ v, e = .returned v ∧ R v w' :=
  calls_of_tr (n := 36) (c := bodyOf Try.f71) (.two .leaf (.two .leaf (.two (.two .leaf (.one (.loop [3, 11] (.two .leaf (.two (.two .leaf .leaf) (.join [3] (.one (.two .leaf (.two .leaf (.two .leaf (.two .leaf .leaf))))) .leaf)))))) (.two .leaf (.two (.two .leaf (.one (.loop [6, 27] (.two .leaf (.two (.two .leaf .leaf) (.two (.one (.two .leaf .leaf)) .leaf)))))) (.two .leaf .leaf)))))) Try.func71 (by kernel_rfl) Try.ntmps71 (by kernel_rfl) (by kernel_rfl) [a0] (by kernel_rfl) (of_eq_ (by kernel_rfl) h)

/-- shelfmark/pack.Text -/
def S72 (a0 : Value) (R : Value → World → Prop) (w : World) : Prop :=
  NextP Try.prog (builtin Go.Builtin.len #[9] 3 #[false] #[a0]) (fun v4 w =>
  CallP Try.prog 55 #[v4] (fun v5 w =>
  NextP Try.prog (builtin Go.Builtin.append #[30, 9] 30 #[false, false] #[v5, a0]) (fun v7 w =>
  R v7 w) w) w) w
theorem S72.calls (a0 : Value) (R : Value → World → Prop) (w : World) (h : S72 a0 R w) : Calls Try.prog 72 #[a0] w fun e w' => ∃ v, e = .returned v ∧ R v w' :=
  calls_of_tr (n := 8) (c := bodyOf Try.f72) (.two .leaf (.two .leaf .leaf)) Try.func72 (by kernel_rfl) Try.ntmps72 (by kernel_rfl) (by kernel_rfl) [a0] (by kernel_rfl) (of_eq_ (by kernel_rfl) h)

/-- slices.Grow[[]byte,byte] -/
def S84 (a0 a1 : Value) (R : Value → World → Prop) (w : World) : Prop :=
  JoinP (fun J w =>
    LiftP Try.prog (binS Go.BinOp.lss 3 (Go.Operand.tmp 5) (Go.Operand.const (Go.Value.int Go.IntKind.i64 0)) a1 (Go.Value.int Go.IntKind.i64 0)) (fun v6 w =>
    CondP v6 (fun w =>
      LiftP Try.prog (Instr.makeInterface 9 (Go.Value.string { data := #[99, 97, 110, 110, 111, 116, 32, 98, 101, 32, 110, 101, 103, 97, 116, 105, 118, 101] })) (fun v7 w =>
      LiftP Try.prog (Instr.panic v7) (fun v_ w =>
      J [] w) w) w) (fun w =>
      J [] w) w) w) (fun vs w =>   -- []
  JoinP (fun J_1 w =>
    NextP Try.prog (builtin Go.Builtin.cap #[30] 3 #[false] #[a0]) (fun v10 w =>
    NextP Try.prog (builtin Go.Builtin.len #[30] 3 #[false] #[a0]) (fun v12 w =>
    LiftP Try.prog (binS Go.BinOp.sub 3 (Go.Operand.tmp 10) (Go.Operand.tmp 12) v10 v12) (fun v13 w =>
    LiftP Try.prog (binS Go.BinOp.sub 3 (Go.Operand.tmp 8) (Go.Operand.tmp 13) a1 v13) (fun v14 w =>
    LiftP Try.prog (binS Go.BinOp.gtr 3 (Go.Operand.tmp 15) (Go.Operand.const (Go.Value.int Go.IntKind.i64 0)) v14 (Go.Value.int Go.IntKind.i64 0)) (fun v16 w =>
    CondP v16 (fun w =>
      NextP Try.prog (builtin Go.Builtin.cap #[30] 3 #[false] #[a0]) (fun v19 w =>
      LiftP Try.prog (Instr.sliceAt 30 a0 none (some v19) none) (fun v20 w =>
      NextP Try.prog (builtin Go.Builtin.append #[30, 3] 30 #[false, false] #[v20, v14]) (fun v22 w =>
      NextP Try.prog (builtin Go.Builtin.len #[30] 3 #[false] #[a0]) (fun v24 w =>
      LiftP Try.prog (Instr.sliceAt 30 v22 none (some v24) none) (fun v25 w =>
      J_1 [v25] w) w) w) w) w) w) (fun w =>
      J_1 [a0] w) w) w) w) w) w) w) (fun vs_1 w =>   -- [0]
  R (vs_1.headD undef) w) w) w
theorem S84.calls (a0 a1 : Value) (R : Value → World → Prop) (w : World) (h : S84 a0 a1 R w) : Calls Try.prog 84 #[a0, a1] w fun e w' => ∃ v, e = .returned v ∧ R v w' :=
  calls_of_tr (n := 27) (c := bodyOf Try.f84) (.two .leaf (.join [] (.two .leaf (.two .leaf .leaf)) (.join [0] (.two .leaf (.two .leaf (.two .leaf .leaf))) (.two .leaf .leaf)))) Try.func84 (by kernel_rfl) Try.ntmps84 (by kernel_rfl) (by kernel_rfl) [a0, a1] (by kernel_rfl) (of_eq_ (by kernel_rfl) h)

end Go.Proofs.Ythicbfopjakiiaa.E
