import Derived.Test.YthicbfopjakiiaaM1
import Derived.Test.YthicbfopjakiiaaProg
import Derived.KernelRfl
namespace Go.Proofs.Ythicbfopjakiiaa.E
open Go
set_option maxRecDepth 100000

/-- shelfmark/session.Load -/
def S16 (a0 : Value) (R : Value → World → Prop) (w : World) : Prop :=
  LiftP Try.prog (convert 9 30 a0) (fun v13 w =>
  LiftP Try.prog (Instr.build 101 #[]) (fun v14 w =>
  LiftP Try.prog (Instr.box 101 v14) (fun v15 w =>
  DrawP (fun S w =>
  YieldN Try.prog S (nilChk v15) (fun v17 w =>
  YieldP Try.prog S (Instr.fieldAt 101 v17 0) (fun v18 w =>
  YieldN Try.prog S (nilChk v15) (fun v20 w =>
  YieldP Try.prog S (Instr.fieldAt 101 v20 1) (fun v21 w =>
  ActP S (fun K w => LiftP Try.prog (Instr.buildSlice 103 2 #[(0, v18), (1, v21)]) K w) (fun S v22 w =>
  YieldN Try.prog S (builtin Go.Builtin.len #[103] 3 #[false] #[v22]) (fun v23 w =>
  LoopP (fun J vs w =>   -- [6, 24]
    LiftP Try.prog (binS Go.BinOp.lss 3 (Go.Operand.tmp 24) (Go.Operand.tmp 23) (vs.tail.headD undef) v23) (fun v25 w =>
    CondP v25 (fun w =>
      LiftP Try.prog (Instr.indexAt 103 v22 (vs.tail.headD undef)) (fun v26 w =>
    LiftP Try.prog (Instr.loadAt 102 v26) (fun v27 w =>
    CallP Try.prog 50 #[v13, (vs.headD undef)] (fun v32 w =>
    LiftP Try.prog (Instr.extract v32 0) (fun v33 w =>
    LiftP Try.prog (Instr.extract v32 1) (fun v34 w =>
    LiftP Try.prog (Instr.extract v32 2) (fun v35 w =>
    NextP Try.prog (nilChk v27) (fun v36 w =>
    LiftU Try.prog (Instr.storeAt 3 v36 v33) (fun v_ w =>
    LiftP Try.prog (binS Go.BinOp.neq 25 (Go.Operand.tmp 37) (Go.Operand.const (Go.Value.int Go.IntKind.i64 0)) v35 (Go.Value.int Go.IntKind.i64 0)) (fun v38 w =>
    CondP v38 (fun w =>
      R (.tuple #[(Go.Value.pointer none), v35]) w) (fun w =>
      LiftP Try.prog (binS Go.BinOp.add 3 (Go.Operand.tmp 24) (Go.Operand.const (Go.Value.int Go.IntKind.i64 1)) (vs.tail.headD undef) (Go.Value.int Go.IntKind.i64 1)) (fun v40 w =>
    J [v34, v40] w) w) w) w) w) w) w) w) w) w) w) w) (fun w =>
      NextP Try.prog (nilChk v15) (fun v42 w =>
  LiftP Try.prog (Instr.fieldAt 101 v42 0) (fun v43 w =>
  LiftP Try.prog (Instr.loadAt 3 v43) (fun v44 w =>
  LiftP Try.prog (binS Go.BinOp.gtr 3 (Go.Operand.tmp 44) (Go.Operand.const (Go.Value.int Go.IntKind.i64 1099511627776)) v44 (Go.Value.int Go.IntKind.i64 1099511627776)) (fun v45 w =>
  GuardP v45 false (fun K w => K v15 w) (fun v47 w =>
  GuardP v45 false (fun K w => NextP Try.prog (nilChk v47) K w) (fun v48 w =>
  GuardP v45 false (fun K w => LiftP Try.prog (Instr.fieldAt 101 v48 1) K w) (fun v49 w =>
  GuardP v45 false (fun K w => LiftP Try.prog (Instr.loadAt 3 v49) K w) (fun v50 w =>
  GuardP v45 false (fun K w => LiftP Try.prog (binS Go.BinOp.gtr 3 (Go.Operand.tmp 50) (Go.Operand.const (Go.Value.int Go.IntKind.i64 1099511627776)) v50 (Go.Value.int Go.IntKind.i64 1099511627776)) K w) (fun v51 w =>
  PickP v45 (Go.Value.bool true) v51 (fun v52 w =>
  CondP v52 (fun w =>
    R (.tuple #[(Go.Value.pointer none), (Go.Value.int Go.IntKind.i64 3)]) w) (fun w =>
    CallP Try.prog 51 #[v13, (vs.headD undef), (Go.Value.int Go.IntKind.i64 256), (Go.Value.int Go.IntKind.i64 65536)] (fun v56 w =>
  LiftP Try.prog (Instr.extract v56 0) (fun v57 w =>
  LiftP Try.prog (Instr.extract v56 1) (fun v58 w =>
  LiftP Try.prog (Instr.extract v56 2) (fun v59 w =>
  JoinP (fun J_1 w =>
    LiftP Try.prog (binS Go.BinOp.eql 25 (Go.Operand.tmp 60) (Go.Operand.const (Go.Value.int Go.IntKind.i64 0)) v59 (Go.Value.int Go.IntKind.i64 0)) (fun v61 w =>
    GuardP v61 true (fun K w => K v57 w) (fun v63 w =>
    GuardP v61 true (fun K w => NextP Try.prog (builtin Go.Builtin.len #[37] 3 #[false] #[v63]) K w) (fun v64 w =>
    GuardP v61 true (fun K w => K v15 w) (fun v65 w =>
    GuardP v61 true (fun K w => NextP Try.prog (nilChk v65) K w) (fun v66 w =>
    GuardP v61 true (fun K w => LiftP Try.prog (Instr.fieldAt 101 v66 1) K w) (fun v67 w =>
    GuardP v61 true (fun K w => LiftP Try.prog (Instr.loadAt 3 v67) K w) (fun v68 w =>
    GuardP v61 true (fun K w => LiftP Try.prog (binS Go.BinOp.gtr 3 (Go.Operand.tmp 64) (Go.Operand.tmp 68) v64 v68) K w) (fun v69 w =>
    GuardP v61 true (fun K w => K v69 w) (fun v70 w =>
    GuardP v70 false (fun K w => K v58 w) (fun v71 w =>
    GuardP v70 false (fun K w => K v13 w) (fun v72 w =>
    GuardP v70 false (fun K w => NextP Try.prog (builtin Go.Builtin.len #[30] 3 #[false] #[v72]) K w) (fun v73 w =>
    GuardP v70 false (fun K w => LiftP Try.prog (binS Go.BinOp.neq 3 (Go.Operand.tmp 71) (Go.Operand.tmp 73) v71 v73) K w) (fun v74 w =>
    GuardP v61 true (fun K w => PickP v70 (Go.Value.bool true) v74 K w) (fun v75 w =>
    PickP v61 v75 (Go.Value.bool false) (fun v76 w =>
    CondP v76 (fun w =>
      J_1 [(Go.Value.int Go.IntKind.i64 3)] w) (fun w =>
      J_1 [v59] w) w) w) w) w) w) w) w) w) w) w) w) w) w) w) w) w) (fun vs_1 w =>   -- [11]
  LiftP Try.prog (binS Go.BinOp.neq 25 (Go.Operand.tmp 77) (Go.Operand.const (Go.Value.int Go.IntKind.i64 0)) (vs_1.headD undef) (Go.Value.int Go.IntKind.i64 0)) (fun v78 w =>
  CondP v78 (fun w =>
    R (.tuple #[(Go.Value.pointer none), (vs_1.headD undef)]) w) (fun w =>
    NextP Try.prog (nilChk v15) (fun v82 w =>
  LiftP Try.prog (Instr.fieldAt 101 v82 2) (fun v83 w =>
  LiftU Try.prog (Instr.storeAt 37 v83 v57) (fun v__1 w =>
  R (.tuple #[v15, (Go.Value.int Go.IntKind.i64 0)]) w) w) w) w) w) w) w) w) w) w) w) w) w) w) w) w) w) w) w) w) w) w) w) w) [(Go.Value.int Go.IntKind.i64 0), (Go.Value.int Go.IntKind.i64 0)] w) w) w) w) w) w) w) w) w) w) w
theorem S16.calls (a0 : Value) (R : Value → World → Prop) (w : World) (h : S16 a0 R w) : Calls Try.prog 16 #[a0] w fun e w' => ∃ v, e = .returned v ∧ R v w' :=
  calls_of_tr (n := 85) (c := bodyOf Try.f16) (.two .leaf (.two .leaf (.two .leaf (.two (.two (.draw [(true, 0), (true, 1), (true, 2), (true, 3), (true, 4), (true, 5), (true, 8), (false, 6), (true, 7)]) (.one (.loop [6, 24] (.two .leaf (.two (.two .leaf .leaf) (.two (.one (.two .leaf (.two .leaf (.two .leaf (.two .leaf (.two (.two .leaf .leaf) .leaf)))))) .leaf)))))) (.two (.two .leaf (.two (.two .leaf .leaf) .leaf)) (.two .leaf (.join [11] (.two .leaf (.two .leaf .leaf)) (.two (.two .leaf (.two (.two .leaf .leaf) .leaf)) (.two .leaf (.two .leaf .leaf)))))))))) Try.func16 (by kernel_rfl) Try.ntmps16 (by kernel_rfl) (by kernel_rfl) [a0] (by kernel_rfl) (of_eq_ (by kernel_rfl) h)

/-- (*shelfmark/session.End).Mark -/
def S20 (a0 : Value) (R : Value → World → Prop) (w : World) : Prop :=
  NextP Try.prog (nilChk a0) (fun v4 w =>
  LiftP Try.prog (Instr.fieldAt 101 v4 0) (fun v5 w =>
  LiftP Try.prog (Instr.loadAt 3 v5) (fun v6 w =>
  R v6 w) w) w) w
theorem S20.calls (a0 : Value) (R : Value → World → Prop) (w : World) (h : S20 a0 R w) : Calls Try.prog 20 #[a0] w fun e w' => ∃ v, e = .returned v ∧ R v w' :=
  calls_of_tr (n := 7) (c := bodyOf Try.f20) (.two .leaf (.two .leaf .leaf)) Try.func20 (by kernel_rfl) Try.ntmps20 (by kernel_rfl) (by kernel_rfl) [a0] (by kernel_rfl) (of_eq_ (by kernel_rfl) h)

/-- shelfmark/pack.GetNum -/
def S50 (a0 a1 : Value) (R : Value → World → Prop) (w : World) : Prop :=
  LiftP Try.prog (binS Go.BinOp.lss 3 (Go.Operand.tmp 9) (Go.Operand.const (Go.Value.int Go.IntKind.i64 0)) a1 (Go.Value.int Go.IntKind.i64 0)) (fun v10 w =>
  GuardP v10 false (fun K w => K a1 w) (fun v12 w =>
  GuardP v10 false (fun K w => K a0 w) (fun v13 w =>
  GuardP v10 false (fun K w => NextP Try.prog (builtin Go.Builtin.len #[30] 3 #[false] #[v13]) K w) (fun v14 w =>
  GuardP v10 false (fun K w => LiftP Try.prog (binS Go.BinOp.gtr 3 (Go.Operand.tmp 12) (Go.Operand.tmp 14) v12 v14) K w) (fun v15 w =>
  PickP v10 (Go.Value.bool true) v15 (fun v16 w =>
  CondP v16 (fun w =>
    R (.tuple #[(Go.Value.int Go.IntKind.i64 0), (Go.Value.int Go.IntKind.i64 0), (Go.Value.int Go.IntKind.i64 1)]) w) (fun w =>
    LiftP Try.prog (Instr.sliceAt 30 a0 (some a1) none none) (fun v19 w =>
  NextP Try.prog (builtin Go.Builtin.len #[30] 3 #[false] #[v19]) (fun v20 w =>
  LoopP (fun J vs w =>   -- [4, 21]
    LiftP Try.prog (binS Go.BinOp.lss 3 (Go.Operand.tmp 21) (Go.Operand.tmp 20) (vs.tail.headD undef) v20) (fun v22 w =>
    CondP v22 (fun w =>
      LiftP Try.prog (Instr.indexAt 30 v19 (vs.tail.headD undef)) (fun v24 w =>
    LiftP Try.prog (Instr.loadAt 5 v24) (fun v25 w =>
    LiftP Try.prog (binS Go.BinOp.and 5 (Go.Operand.tmp 27) (Go.Operand.const (Go.Value.int Go.IntKind.u8 127)) v25 (Go.Value.int Go.IntKind.u8 127)) (fun v28 w =>
    LiftP Try.prog (convert 5 3 v28) (fun v29 w =>
    LiftP Try.prog (binS Go.BinOp.mul 3 (Go.Operand.const (Go.Value.int Go.IntKind.i64 7)) (Go.Operand.tmp 30) (Go.Value.int Go.IntKind.i64 7) (vs.tail.headD undef)) (fun v31 w =>
    LiftP Try.prog (binS Go.BinOp.shl 3 (Go.Operand.tmp 29) (Go.Operand.tmp 31) v29 v31) (fun v32 w =>
    LiftP Try.prog (binS Go.BinOp.or 3 (Go.Operand.tmp 26) (Go.Operand.tmp 32) (vs.headD undef) v32) (fun v33 w =>
    JoinP (fun J_1 w =>
      LiftP Try.prog (binS Go.BinOp.gtr 5 (Go.Operand.tmp 35) (Go.Operand.const (Go.Value.int Go.IntKind.u8 127)) v25 (Go.Value.int Go.IntKind.u8 127)) (fun v36 w =>
      GuardP v36 true (fun K w => K (vs.tail.headD undef) w) (fun v38 w =>
      GuardP v36 true (fun K w => LiftP Try.prog (binS Go.BinOp.eql 3 (Go.Operand.tmp 38) (Go.Operand.const (Go.Value.int Go.IntKind.i64 8)) v38 (Go.Value.int Go.IntKind.i64 8)) K w) (fun v39 w =>
      PickP v36 v39 (Go.Value.bool false) (fun v40 w =>
      CondP v40 (fun w =>
        J_1 [v40] w) (fun w =>
        LiftP Try.prog (binS Go.BinOp.eql 5 (Go.Operand.tmp 41) (Go.Operand.const (Go.Value.int Go.IntKind.u8 0)) v25 (Go.Value.int Go.IntKind.u8 0)) (fun v42 w =>
        GuardP v42 true (fun K w => K (vs.tail.headD undef) w) (fun v44 w =>
        GuardP v42 true (fun K w => LiftP Try.prog (binS Go.BinOp.gtr 3 (Go.Operand.tmp 44) (Go.Operand.const (Go.Value.int Go.IntKind.i64 0)) v44 (Go.Value.int Go.IntKind.i64 0)) K w) (fun v45 w =>
        PickP v42 v45 (Go.Value.bool false) (fun v46 w =>
        J_1 [v46] w) w) w) w) w) w) w) w) w) w) (fun vs_1 w =>   -- [34]
    CondP (vs_1.headD undef) (fun w =>
      R (.tuple #[(Go.Value.int Go.IntKind.i64 0), (Go.Value.int Go.IntKind.i64 0), (Go.Value.int Go.IntKind.i64 3)]) w) (fun w =>
      LiftP Try.prog (binS Go.BinOp.lss 5 (Go.Operand.tmp 48) (Go.Operand.const (Go.Value.int Go.IntKind.u8 128)) v25 (Go.Value.int Go.IntKind.u8 128)) (fun v49 w =>
      CondP v49 (fun w =>
        LiftP Try.prog (binS Go.BinOp.add 3 (Go.Operand.tmp 51) (Go.Operand.tmp 52) a1 (vs.tail.headD undef)) (fun v53 w =>
        LiftP Try.prog (binS Go.BinOp.add 3 (Go.Operand.tmp 53) (Go.Operand.const (Go.Value.int Go.IntKind.i64 1)) v53 (Go.Value.int Go.IntKind.i64 1)) (fun v54 w =>
        R (.tuple #[v33, v54, (Go.Value.int Go.IntKind.i64 0)]) w) w) w) (fun w =>
        LiftP Try.prog (binS Go.BinOp.add 3 (Go.Operand.tmp 21) (Go.Operand.const (Go.Value.int Go.IntKind.i64 1)) (vs.tail.headD undef) (Go.Value.int Go.IntKind.i64 1)) (fun v55 w =>
    J [v33, v55] w) w) w) w) w) w) w) w) w) w) w) w) w) (fun w =>
      R (.tuple #[(Go.Value.int Go.IntKind.i64 0), (Go.Value.int Go.IntKind.i64 0), (Go.Value.int Go.IntKind.i64 2)]) w) w) w) [(Go.Value.int Go.IntKind.i64 0), (Go.Value.int Go.IntKind.i64 0)] w) w) w) w) w) w) w) w) w) w
theorem S50.calls (a0 a1 : Value) (R : Value → World → Prop) (w : World) (h : S50 a0 a1 R w) : Calls Try.prog 50 #[a0, a1] w fun e w' => ∃ v, e = .returned v ∧ R v w' :=
  calls_of_tr (n := 56) (c := bodyOf Try.f50) (.two .leaf (.two (.two .leaf (.two (.two .leaf .leaf) .leaf)) (.two (.two .leaf (.one (.loop [4, 21] (.two .leaf (.two (.two .leaf .leaf) (.two (.one (.two .leaf (.two .leaf (.one (.join [34] (.two .leaf (.two .leaf .leaf)) (.two (.two .leaf .leaf) (.two .leaf (.two (.two .leaf .leaf) .leaf)))))))) .leaf)))))) (.two .leaf .leaf)))) Try.func50 (by kernel_rfl) Try.ntmps50 (by kernel_rfl) (by kernel_rfl) [a0, a1] (by kernel_rfl) (of_eq_ (by kernel_rfl) h)

/-- shelfmark/pack.GetTexts -/
def S51 (a0 a1 a2 a3 : Value) (R : Value → World → Prop) (w : World) : Prop :=
  CallP Try.prog 50 #[a0, a1] (fun v18 w =>
  LiftP Try.prog (Instr.extract v18 0) (fun v19 w =>
  LiftP Try.prog (Instr.extract v18 1) (fun v20 w =>
  LiftP Try.prog (Instr.extract v18 2) (fun v21 w =>
  JoinP (fun J w =>
    LiftP Try.prog (binS Go.BinOp.eql 25 (Go.Operand.tmp 22) (Go.Operand.const (Go.Value.int Go.IntKind.i64 0)) v21 (Go.Value.int Go.IntKind.i64 0)) (fun v23 w =>
    GuardP v23 true (fun K w => K v19 w) (fun v25 w =>
    GuardP v23 true (fun K w => K a2 w) (fun v26 w =>
    GuardP v23 true (fun K w => LiftP Try.prog (binS Go.BinOp.gtr 3 (Go.Operand.tmp 25) (Go.Operand.tmp 26) v25 v26) K w) (fun v27 w =>
    PickP v23 v27 (Go.Value.bool false) (fun v28 w =>
    CondP v28 (fun w =>
      J [(Go.Value.int Go.IntKind.i64 4)] w) (fun w =>
      J [v21] w) w) w) w) w) w) w) (fun vs w =>   -- [10]
  LiftP Try.prog (binS Go.BinOp.neq 25 (Go.Operand.tmp 29) (Go.Operand.const (Go.Value.int Go.IntKind.i64 0)) (vs.headD undef) (Go.Value.int Go.IntKind.i64 0)) (fun v30 w =>
  CondP v30 (fun w =>
    R (.tuple #[(Go.Value.slice none 0 0), (Go.Value.int Go.IntKind.i64 0), (vs.headD undef)]) w) (fun w =>
    LoopP (fun J_1 vs_1 w =>   -- [1, 8, 33]
    LiftP Try.prog (binS Go.BinOp.lss 3 (Go.Operand.tmp 33) (Go.Operand.tmp 32) (vs_1.tail.tail.headD undef) v19) (fun v34 w =>
    CondP v34 (fun w =>
      CallP Try.prog 69 #[a0, (vs_1.headD undef), a3] (fun v39 w =>
    LiftP Try.prog (Instr.extract v39 0) (fun v40 w =>
    LiftP Try.prog (Instr.extract v39 1) (fun v41 w =>
    LiftP Try.prog (Instr.extract v39 2) (fun v42 w =>
    LiftP Try.prog (binS Go.BinOp.neq 25 (Go.Operand.tmp 43) (Go.Operand.const (Go.Value.int Go.IntKind.i64 0)) v42 (Go.Value.int Go.IntKind.i64 0)) (fun v44 w =>
    CondP v44 (fun w =>
      R (.tuple #[(Go.Value.slice none 0 0), (Go.Value.int Go.IntKind.i64 0), v42]) w) (fun w =>
      LiftP Try.prog (Instr.buildSlice 37 1 #[(0, v40)]) (fun v48 w =>
    NextP Try.prog (builtin Go.Builtin.append #[37, 37] 37 #[false, false] #[(vs_1.tail.headD undef), v48]) (fun v49 w =>
    LiftP Try.prog (binS Go.BinOp.add 3 (Go.Operand.tmp 33) (Go.Operand.const (Go.Value.int Go.IntKind.i64 1)) (vs_1.tail.tail.headD undef) (Go.Value.int Go.IntKind.i64 1)) (fun v51 w =>
    J_1 [v41, v49, v51] w) w) w) w) w) w) w) w) w) w) (fun w =>
      R (.tuple #[(vs_1.tail.headD undef), (vs_1.headD undef), (Go.Value.int Go.IntKind.i64 0)]) w) w) w) [v20, (Go.Value.slice none 0 0), (Go.Value.int Go.IntKind.i64 0)] w) w) w) w) w) w) w) w
theorem S51.calls (a0 a1 a2 a3 : Value) (R : Value → World → Prop) (w : World) (h : S51 a0 a1 a2 a3 R w) : Calls Try.prog 51 #[a0, a1, a2, a3] w fun e w' => ∃ v, e = .returned v ∧ R v w' :=
  calls_of_tr (n := 54) (c := bodyOf Try.f51) (.two .leaf (.two .leaf (.join [10] (.two .leaf (.two .leaf .leaf)) (.two (.two .leaf (.two (.two .leaf .leaf) .leaf)) (.two (.two .leaf (.one (.loop [1, 8, 33] (.two .leaf (.two (.two .leaf .leaf) (.two (.one (.two .leaf (.two (.two .leaf (.two (.two .leaf .leaf) .leaf)) .leaf))) .leaf)))))) (.two .leaf .leaf)))))) Try.func51 (by kernel_rfl) Try.ntmps51 (by kernel_rfl) (by kernel_rfl) [a0, a1, a2, a3] (by kernel_rfl) (of_eq_ (by kernel_rfl) h)

/-- shelfmark/pack.GetText -/
def S69 (a0 a1 a2 : Value) (R : Value → World → Prop) (w : World) : Prop :=
  CallP Try.prog 50 #[a0, a1] (fun v13 w =>
  LiftP Try.prog (Instr.extract v13 0) (fun v14 w =>
  LiftP Try.prog (Instr.extract v13 1) (fun v15 w =>
  LiftP Try.prog (Instr.extract v13 2) (fun v16 w =>
  LiftP Try.prog (binS Go.BinOp.neq 25 (Go.Operand.tmp 18) (Go.Operand.const (Go.Value.int Go.IntKind.i64 0)) v16 (Go.Value.int Go.IntKind.i64 0)) (fun v19 w =>
  CondP v19 (fun w =>
    R (.tuple #[(Go.Value.string { data := #[] }), (Go.Value.int Go.IntKind.i64 0), v16]) w) (fun w =>
    LiftP Try.prog (binS Go.BinOp.gtr 3 (Go.Operand.tmp 22) (Go.Operand.tmp 23) v14 a2) (fun v24 w =>
    CondP v24 (fun w =>
      R (.tuple #[(Go.Value.string { data := #[] }), (Go.Value.int Go.IntKind.i64 0), (Go.Value.int Go.IntKind.i64 4)]) w) (fun w =>
      NextP Try.prog (builtin Go.Builtin.len #[30] 3 #[false] #[a0]) (fun v28 w =>
      LiftP Try.prog (binS Go.BinOp.sub 3 (Go.Operand.tmp 28) (Go.Operand.tmp 29) v28 v15) (fun v30 w =>
      LiftP Try.prog (binS Go.BinOp.gtr 3 (Go.Operand.tmp 26) (Go.Operand.tmp 30) v14 v30) (fun v31 w =>
      CondP v31 (fun w =>
        R (.tuple #[(Go.Value.string { data := #[] }), (Go.Value.int Go.IntKind.i64 0), (Go.Value.int Go.IntKind.i64 2)]) w) (fun w =>
        LiftP Try.prog (binS Go.BinOp.add 3 (Go.Operand.tmp 34) (Go.Operand.tmp 35) v15 v14) (fun v36 w =>
  LiftP Try.prog (Instr.sliceAt 30 a0 (some v15) (some v36) none) (fun v37 w =>
  LiftP Try.prog (convert 30 9 v37) (fun v38 w =>
  LiftP Try.prog (binS Go.BinOp.add 3 (Go.Operand.tmp 39) (Go.Operand.tmp 40) v15 v14) (fun v41 w =>
  R (.tuple #[v38, v41, (Go.Value.int Go.IntKind.i64 0)]) w) w) w) w) w) w) w) w) w) w) w) w) w) w) w) w) w
theorem S69.calls (a0 a1 a2 : Value) (R : Value → World → Prop) (w : World) (h : S69 a0 a1 a2 R w) : Calls Try.prog 69 #[a0, a1, a2] w fun e w' => ∃ v, e = .returned v ∧ R v w' :=
  calls_of_tr (n := 42) (c := bodyOf Try.f69) (.two .leaf (.two .leaf (.two (.one (.two .leaf (.two (.two .leaf .leaf) (.two .leaf (.two (.two .leaf .leaf) (.two .leaf (.two (.two .leaf .leaf) .leaf))))))) (.two .leaf .leaf)))) Try.func69 (by kernel_rfl) Try.ntmps69 (by kernel_rfl) (by kernel_rfl) [a0, a1, a2] (by kernel_rfl) (of_eq_ (by kernel_rfl) h)

end Go.Proofs.Ythicbfopjakiiaa.E
