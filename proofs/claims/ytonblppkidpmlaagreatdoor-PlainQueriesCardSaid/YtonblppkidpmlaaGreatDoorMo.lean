import Derived.Test.YtonblppkidpmlaaGreatDoorM1
import Derived.Test.YtonblppkidpmlaaGreatDoorProg
import Derived.KernelRfl
import Derived.Test.YtonblppkidpmlaaGreatDoorMn
import Derived.Shelf.Vars
namespace Go.Proofs.YtonblppkidpmlaaGreatDoor.E
open Go
set_option maxRecDepth 100000

/-- shelfmark/shelfmarklaw05.PlainQueries -/
def S6 (a0 a1 a2 a3 : Value) (R : Value → World → Prop) (w : World) : Prop :=
  CallP Tryz.prog 9 #[] (fun v21 w =>
  LiftP Tryz.prog (Op.unary Go.UnOp.not v21) (fun v22 w =>
  CondP v22 (fun w =>
    R (Go.Value.bool false) w) (fun w =>
    CallP Tryz.prog 13 #[a0, (Go.Value.int Go.IntKind.i64 60)] (fun v24 w =>
  LiftP Tryz.prog (Op.unary Go.UnOp.not v24) (fun v25 w =>
  GuardP v25 false (fun K w => K a2 w) (fun v27 w =>
  GuardP v25 false (fun K w => CallP Tryz.prog 19 #[v27, (Go.Value.int Go.IntKind.i64 300)] K w) (fun v28 w =>
  GuardP v25 false (fun K w => LiftP Tryz.prog (Op.unary Go.UnOp.not v28) K w) (fun v29 w =>
  PickP v25 (Go.Value.bool true) v29 (fun v30 w =>
  GuardP v30 false (fun K w => K a3 w) (fun v32 w =>
  GuardP v30 false (fun K w => CallP Tryz.prog 19 #[v32, (Go.Value.int Go.IntKind.i64 300)] K w) (fun v33 w =>
  GuardP v30 false (fun K w => LiftP Tryz.prog (Op.unary Go.UnOp.not v33) K w) (fun v34 w =>
  PickP v30 (Go.Value.bool true) v34 (fun v35 w =>
  CondP v35 (fun w =>
    R (Go.Value.bool true) w) (fun w =>
    CallP Tryz.prog 14 #[] (fun v36 w =>
  LoopP (fun J vs w =>   -- [10]
    NextP Tryz.prog (builtin Go.Builtin.len #[31] 3 #[false] #[a0]) (fun v39 w =>
    LiftP Tryz.prog (binS Go.BinOp.lss 3 (Go.Operand.tmp 37) (Go.Operand.tmp 39) (vs.headD undef) v39) (fun v40 w =>
    CondP v40 (fun w =>
      LiftP Tryz.prog (Instr.indexAt 31 a0 (vs.headD undef)) (fun v46 w =>
    LiftP Tryz.prog (Instr.loadAt 26 v46) (fun v47 w =>
    CallP Tryz.prog 15 #[v36, v47] (fun v48 w =>
    LiftP Tryz.prog (binS Go.BinOp.add 3 (Go.Operand.tmp 41) (Go.Operand.const (Go.Value.int Go.IntKind.i64 1)) (vs.headD undef) (Go.Value.int Go.IntKind.i64 1)) (fun v42 w =>
    J [v42] w) w) w) w) w) (fun w =>
      LiftP Tryz.prog (Instr.build 26 #[(0, (Go.Value.int Go.IntKind.i64 6)), (5, a1), (7, a2), (8, a3), (9, (Go.Value.int Go.IntKind.i64 64))]) (fun v53 w =>
  CallP Tryz.prog 15 #[v36, v53] (fun v54 w =>
  LiftP Tryz.prog (Instr.alloc 37 true (.tuple #[])) (fun v11 w =>
  LiftU Tryz.prog (Instr.storeAt 37 v11 v54) (fun v_ w =>
  LiftP Tryz.prog (Instr.fieldAt 37 v11 0) (fun v55 w =>
  LiftP Tryz.prog (Instr.loadAt 29 v55) (fun v56 w =>
  LiftP Tryz.prog (binS Go.BinOp.neq 29 (Go.Operand.tmp 56) (Go.Operand.const (Go.Value.int Go.IntKind.i64 0)) v56 (Go.Value.int Go.IntKind.i64 0)) (fun v57 w =>
  CondP v57 (fun w =>
    LiftP Tryz.prog (Instr.fieldAt 37 v11 3) (fun v58 w =>
    LiftP Tryz.prog (Instr.loadAt 35 v58) (fun v59 w =>
    NextP Tryz.prog (builtin Go.Builtin.len #[35] 3 #[false] #[v59]) (fun v60 w =>
    LiftP Tryz.prog (binS Go.BinOp.eql 3 (Go.Operand.tmp 60) (Go.Operand.const (Go.Value.int Go.IntKind.i64 0)) v60 (Go.Value.int Go.IntKind.i64 0)) (fun v61 w =>
    R v61 w) w) w) w) w) (fun w =>
    CallP Tryz.prog 20 #[v36] (fun v63 w =>
  CallP Tryz.prog 21 #[v36] (fun v65 w =>
  LoopP (fun J_1 vs_1 w =>   -- [14, 15]
    NextP Tryz.prog (builtin Go.Builtin.len #[35] 3 #[false] #[v63]) (fun v68 w =>
    LiftP Tryz.prog (binS Go.BinOp.lss 3 (Go.Operand.tmp 66) (Go.Operand.tmp 68) (vs_1.tail.headD undef) v68) (fun v69 w =>
    CondP v69 (fun w =>
      LoopP (fun J_2 vs_2 w =>   -- [14, 16]
      NextP Tryz.prog (builtin Go.Builtin.len #[48] 3 #[false] #[v65]) (fun v74 w =>
      LiftP Tryz.prog (binS Go.BinOp.lss 3 (Go.Operand.tmp 72) (Go.Operand.tmp 74) (vs_2.tail.headD undef) v74) (fun v75 w =>
      CondP v75 (fun w =>
        JoinP (fun J_3 w =>
        DrawP (fun S w =>
        YieldP Tryz.prog S (Instr.indexAt 48 v65 (vs_2.tail.headD undef)) (fun v81 w =>
        YieldP Tryz.prog S (Instr.loadAt 53 v81) (fun v82 w =>
        YieldP Tryz.prog S (Instr.indexAt 35 v63 (vs_1.tail.headD undef)) (fun v85 w =>
        YieldP Tryz.prog S (Instr.fieldAt 40 v85 1) (fun v86 w =>
        YieldP Tryz.prog S (Instr.loadAt 23 v86) (fun v87 w =>
        ActP S (fun K w => CallP Tryz.prog 22 #[v82, v87] K w) (fun S v88 w =>
        YieldP Tryz.prog S (Instr.extract v88 0) (fun v89 w =>
        YieldP Tryz.prog S (Instr.extract v88 1) (fun v90 w =>
        LiftP Tryz.prog (Instr.indexAt 48 v65 (vs_2.tail.headD undef)) (fun v93 w =>
        LiftP Tryz.prog (Instr.fieldAt 53 v93 0) (fun v94 w =>
        LiftP Tryz.prog (Instr.loadAt 3 v94) (fun v95 w =>
        LiftP Tryz.prog (binS Go.BinOp.neq 3 (Go.Operand.tmp 95) (Go.Operand.tmp 96) v95 a1) (fun v97 w =>
        GuardP v97 false (fun K w => K v90 w) (fun v99 w =>
        GuardP v97 false (fun K w => LiftP Tryz.prog (Op.unary Go.UnOp.not v99) K w) (fun v100 w =>
        PickP v97 (Go.Value.bool true) v100 (fun v101 w =>
        GuardP v101 false (fun K w => K v89 w) (fun v103 w =>
        GuardP v101 false (fun K w => K a2 w) (fun v104 w =>
        GuardP v101 false (fun K w => K a3 w) (fun v105 w =>
        GuardP v101 false (fun K w => CallP Tryz.prog 23 #[v103, v104, v105] K w) (fun v106 w =>
        GuardP v101 false (fun K w => LiftP Tryz.prog (Op.unary Go.UnOp.not v106) K w) (fun v107 w =>
        PickP v101 (Go.Value.bool true) v107 (fun v108 w =>
        CondP v108 (fun w =>
          J_3 [(vs_2.headD undef)] w) (fun w =>
          LiftP Tryz.prog (binS Go.BinOp.add 3 (Go.Operand.tmp 109) (Go.Operand.const (Go.Value.int Go.IntKind.i64 1)) (vs_2.headD undef) (Go.Value.int Go.IntKind.i64 1)) (fun v110 w =>
        LoopP (fun J_4 vs_4 w =>   -- [19, 20]
          LiftP Tryz.prog (Instr.fieldAt 37 v11 3) (fun v112 w =>
          LiftP Tryz.prog (Instr.loadAt 35 v112) (fun v113 w =>
          NextP Tryz.prog (builtin Go.Builtin.len #[35] 3 #[false] #[v113]) (fun v114 w =>
          LiftP Tryz.prog (binS Go.BinOp.lss 3 (Go.Operand.tmp 111) (Go.Operand.tmp 114) (vs_4.tail.headD undef) v114) (fun v115 w =>
          CondP v115 (fun w =>
            DrawP (fun S w =>
          GuardP (vs_4.headD undef) false (fun K w => YieldP Tryz.prog S (Instr.fieldAt 37 v11 3) K w) (fun v120 w =>
          GuardP (vs_4.headD undef) false (fun K w => YieldP Tryz.prog S (Instr.loadAt 35 v120) K w) (fun v121 w =>
          GuardP (vs_4.headD undef) false (fun K w => K (vs_4.tail.headD undef) w) (fun v122 w =>
          GuardP (vs_4.headD undef) false (fun K w => YieldP Tryz.prog S (Instr.indexAt 35 v121 v122) K w) (fun v123 w =>
          GuardP (vs_4.headD undef) false (fun K w => YieldP Tryz.prog S (Instr.fieldAt 40 v123 0) K w) (fun v124 w =>
          GuardP (vs_4.headD undef) false (fun K w => YieldP Tryz.prog S (Instr.loadAt 9 v124) K w) (fun v125 w =>
          GuardP (vs_4.headD undef) false (fun K w => K v63 w) (fun v126 w =>
          GuardP (vs_4.headD undef) false (fun K w => K (vs_1.tail.headD undef) w) (fun v127 w =>
          GuardP (vs_4.headD undef) false (fun K w => YieldP Tryz.prog S (Instr.indexAt 35 v126 v127) K w) (fun v128 w =>
          GuardP (vs_4.headD undef) false (fun K w => YieldP Tryz.prog S (Instr.fieldAt 40 v128 0) K w) (fun v129 w =>
          GuardP (vs_4.headD undef) false (fun K w => YieldP Tryz.prog S (Instr.loadAt 9 v129) K w) (fun v130 w =>
          GuardP (vs_4.headD undef) false (fun K w => YieldP Tryz.prog S (binS Go.BinOp.eql 9 (Go.Operand.tmp 125) (Go.Operand.tmp 130) v125 v130) K w) (fun v131 w =>
          GuardP (vs_4.headD undef) false (fun K w => K v131 w) (fun v132 w =>
          GuardP v132 true (fun K w => YieldP Tryz.prog S (Instr.fieldAt 37 v11 3) K w) (fun v133 w =>
          GuardP v132 true (fun K w => YieldP Tryz.prog S (Instr.loadAt 35 v133) K w) (fun v134 w =>
          GuardP v132 true (fun K w => K (vs_4.tail.headD undef) w) (fun v135 w =>
          GuardP v132 true (fun K w => YieldP Tryz.prog S (Instr.indexAt 35 v134 v135) K w) (fun v136 w =>
          GuardP v132 true (fun K w => YieldP Tryz.prog S (Instr.fieldAt 40 v136 1) K w) (fun v137 w =>
          GuardP v132 true (fun K w => YieldP Tryz.prog S (Instr.loadAt 23 v137) K w) (fun v138 w =>
          GuardP v132 true (fun K w => K v63 w) (fun v139 w =>
          GuardP v132 true (fun K w => K (vs_1.tail.headD undef) w) (fun v140 w =>
          GuardP v132 true (fun K w => YieldP Tryz.prog S (Instr.indexAt 35 v139 v140) K w) (fun v141 w =>
          GuardP v132 true (fun K w => YieldP Tryz.prog S (Instr.fieldAt 40 v141 1) K w) (fun v142 w =>
          GuardP v132 true (fun K w => YieldP Tryz.prog S (Instr.loadAt 23 v142) K w) (fun v143 w =>
          GuardA v132 true S (fun K w => CallP Tryz.prog 17 #[v138, v143] K w) (fun S v144 w =>
          GuardP (vs_4.headD undef) false (fun K w => PickP v132 v144 (Go.Value.bool false) K w) (fun v145 w =>
          PickP (vs_4.headD undef) (Go.Value.bool true) v145 (fun v146 w =>
          LiftP Tryz.prog (binS Go.BinOp.add 3 (Go.Operand.tmp 116) (Go.Operand.const (Go.Value.int Go.IntKind.i64 1)) (vs_4.tail.headD undef) (Go.Value.int Go.IntKind.i64 1)) (fun v117 w =>
          J_4 [v146, v117] w) w) w) w) w) w) w) w) w) w) w) w) w) w) w) w) w) w) w) w) w) w) w) w) w) w) w) w) w) w) (fun w =>
            LiftP Tryz.prog (Op.unary Go.UnOp.not (vs_4.headD undef)) (fun v148 w =>
        CondP v148 (fun w =>
          R (Go.Value.bool false) w) (fun w =>
          J_3 [v110] w) w) w) w) w) w) w) w) [(Go.Value.bool false), (Go.Value.int Go.IntKind.i64 0)] w) w) w) w) w) w) w) w) w) w) w) w) w) w) w) w) w) w) w) w) w) w) w) w) w) (fun vs_3 w =>   -- [14]
      LiftP Tryz.prog (binS Go.BinOp.add 3 (Go.Operand.tmp 76) (Go.Operand.const (Go.Value.int Go.IntKind.i64 1)) (vs_2.tail.headD undef) (Go.Value.int Go.IntKind.i64 1)) (fun v77 w =>
      J_2 [(vs_3.headD undef), v77] w) w) w) (fun w =>
        LiftP Tryz.prog (binS Go.BinOp.add 3 (Go.Operand.tmp 70) (Go.Operand.const (Go.Value.int Go.IntKind.i64 1)) (vs_1.tail.headD undef) (Go.Value.int Go.IntKind.i64 1)) (fun v71 w =>
    J_1 [(vs_2.headD undef), v71] w) w) w) w) w) [(vs_1.headD undef), (Go.Value.int Go.IntKind.i64 0)] w) (fun w =>
      LiftP Tryz.prog (Instr.fieldAt 37 v11 3) (fun v150 w =>
  LiftP Tryz.prog (Instr.loadAt 35 v150) (fun v151 w =>
  NextP Tryz.prog (builtin Go.Builtin.len #[35] 3 #[false] #[v151]) (fun v152 w =>
  LiftP Tryz.prog (binS Go.BinOp.eql 3 (Go.Operand.tmp 149) (Go.Operand.tmp 152) (vs_1.headD undef) v152) (fun v153 w =>
  R v153 w) w) w) w) w) w) w) w) [(Go.Value.int Go.IntKind.i64 0), (Go.Value.int Go.IntKind.i64 0)] w) w) w) w) w) w) w) w) w) w) w) w) w) w) [(Go.Value.int Go.IntKind.i64 0)] w) w) w) w) w) w) w) w) w) w) w) w) w) w) w) w
theorem S6.calls (a0 a1 a2 a3 : Value) (R : Value → World → Prop) (w : World) (h : S6 a0 a1 a2 a3 R w) : Calls Tryz.prog 6 #[a0, a1, a2, a3] w fun e w' => ∃ v, e = .returned v ∧ R v w' :=
  calls_of_tr (n := 154) (c := bodyOf Tryz.f6) (.two .leaf (.two (.two .leaf (.two (.two .leaf .leaf) .leaf)) (.two (.two .leaf (.two (.two .leaf .leaf) .leaf)) (.two .leaf (.two (.two .leaf (.one (.loop [10] (.two (.two .leaf (.two .leaf .leaf)) (.two (.one .leaf) .leaf))))) (.two .leaf (.two (.two .leaf (.two (.two .leaf .leaf) .leaf)) (.two .leaf (.two .leaf (.two .leaf (.two (.two .leaf (.one (.loop [14, 15] (.two (.two .leaf (.two .leaf .leaf)) (.two (.one (.two .leaf (.one (.loop [14, 16] (.two (.two .leaf (.two .leaf .leaf)) (.join [14] (.one (.two (.draw [(true, 0), (true, 1), (true, 2), (true, 3), (true, 4), (true, 5), (true, 6), (true, 7), (true, 8), (false, 9), (true, 10), (true, 11), (true, 12), (true, 13), (true, 14)]) (.two (.two .leaf (.two .leaf .leaf)) (.two .leaf (.two .leaf (.two (.two .leaf (.one (.loop [19, 20] (.two (.two .leaf (.two .leaf .leaf)) (.two (.one (.draw [(true, 0), (true, 1), (true, 2), (true, 3), (true, 4), (true, 5), (true, 6), (true, 7), (true, 8), (true, 9), (true, 10), (true, 11), (true, 12), (true, 13), (true, 14), (true, 15), (true, 16), (true, 17), (true, 18), (true, 19), (true, 20), (true, 21), (true, 22), (true, 23), (true, 24), (true, 25), (false, 26), (true, 27), (true, 28), (true, 29)])) .leaf))))) (.two .leaf (.two (.two .leaf .leaf) .leaf)))))))) .leaf)))))) .leaf))))) (.two .leaf .leaf)))))))))))) Tryz.func6 (by kernel_rfl) Tryz.ntmps6 (by kernel_rfl) (by kernel_rfl) [a0, a1, a2, a3] (by kernel_rfl) (of_eq_ (by kernel_rfl) h)

end Go.Proofs.YtonblppkidpmlaaGreatDoor.E
namespace Go.Proofs.YtonblppkidpmlaaGreatDoor.E
open Go Go.RowKit
set_option linter.unusedSimpArgs false
set_option linter.unusedVariables false

end Go.Proofs.YtonblppkidpmlaaGreatDoor.E
namespace Go.Proofs.YtonblppkidpmlaaGreatDoor.E
open Go Go.RowKit
theorem gmx_of {w : World} (h : w.ShapedOpen Tryz.prog) : GMx w :=
  cell_of_shapedOpen_int (g := 0) (t := 3) (zero := #[.int .i64 0]) (k := .i64) h (of_decide_eq_true (by kernel_rfl)) (by kernel_rfl) rfl (by kernel_rfl) (by kernel_rfl) und3
end Go.Proofs.YtonblppkidpmlaaGreatDoor.E
namespace Go.Proofs.YtonblppkidpmlaaGreatDoor.E
open Go Go.RowKit
set_option linter.unusedSimpArgs false
set_option linter.unusedVariables false

end Go.Proofs.YtonblppkidpmlaaGreatDoor.E
namespace Go.Proofs.YtonblppkidpmlaaGreatDoor.E
open Go Go.RowKit
set_option linter.unusedSimpArgs false
set_option linter.unusedVariables false

def idxV : Nat → List (List Int) → List (Int × List Int)
  | _, [] => []
  | n, fs :: t => if fs.length = 0 then idxV (n + 1) t else ((n : Int) + 1, fs) :: idxV (n + 1) t
theorem idxV_take (n : Nat) : ∀ (X : List (List Int)) (i : Nat) (h : i < X.length), idxV n (X.take (i + 1)) = idxV n (X.take i) ++ (if X[i].length = 0 then [] else [(((n + i : Nat) : Int) + 1, X[i])])
  | fs :: t, 0, _ => by
    simp only [List.take_succ_cons, List.take_zero, idxV, List.getElem_cons_zero, Nat.add_zero]
    split <;> rfl
  | fs :: t, i + 1, h => by
    have ih := idxV_take (n + 1) t i (by simpa using h)
    simp only [List.take_succ_cons, idxV, List.getElem_cons_succ, ih]
    rw [show n + 1 + i = n + (i + 1) by omega]
    split <;> simp
theorem idxV_gt : ∀ (n : Nat) (X : List (List Int)) (p : Int × List Int), p ∈ idxV n X → (n : Int) < p.1
  | n, [], p, h => by simp [idxV] at h
  | n, fs :: t, p, h => by
    unfold idxV at h
    split at h
    · have := idxV_gt (n + 1) t p h; omega
    · rcases List.mem_cons.1 h with h | h
      · rw [h]; show (n : Int) < (n : Int) + 1; omega
      · have := idxV_gt (n + 1) t p h; omega
theorem idxV_one : ∀ (n : Nat) (X : List (List Int)) (i : Nat) (fs : List Int), X[i]? = some fs → fs.length ≠ 0 → (idxV n X).filter (fun p => decide (p.1 = ((n + i : Nat) : Int) + 1)) = [(((n + i : Nat) : Int) + 1, fs)]
  | n, [], i, fs, h, _ => by simp at h
  | n, gs :: t, 0, fs, h, h0 => by
    simp only [List.getElem?_cons_zero, Option.some.injEq] at h
    subst h
    unfold idxV
    rw [if_neg h0, List.filter_cons, if_pos (by simp)]
    have : (idxV (n + 1) t).filter (fun p => decide (p.1 = ((n + 0 : Nat) : Int) + 1)) = [] := by
      rw [List.filter_eq_nil_iff]
      intro p hp
      have := idxV_gt _ _ _ hp
      simp only [decide_eq_true_eq]
      omega
    rw [this]
    rfl
  | n, gs :: t, i + 1, fs, h, h0 => by
    have ih := idxV_one (n + 1) t i fs (by simpa using h) h0
    rw [show n + 1 + i = n + (i + 1) by omega] at ih
    unfold idxV
    split
    · exact ih
    · rw [List.filter_cons, if_neg (by simp only [decide_eq_true_eq]; omega), ih]
theorem fields_one {X : List (List Int)} {id : Int} {fs : List Int} (h : fieldsOf X id = some fs) : (idxV 0 X).filter (fun p => decide (p.1 = id)) = [(id, fs)] := by
  unfold fieldsOf at h
  split at h
  · rename_i hc
    split at h
    · rename_i gs hg
      split at h
      · cases h
      · rename_i h0
        have hgs : gs = fs := Option.some.inj h
        subst hgs
        have := idxV_one 0 X (id - 1).toNat gs hg h0
        rw [show ((0 + (id - 1).toNat : Nat) : Int) + 1 = id by omega] at this
        exact this
    · cases h
  · cases h
/-- An index shows a row in the area, and is the one. -/
noncomputable def hitV (id : Int) (low high : List ValT) (p : Txt × List ValT) (x : Int × List Int) : Bool := decide (x.1 = id) && (match showV x.1 x.2 p.2 with | some key => liesV key low high | none => false)
theorem hit_ent {id : Int} {low high : List ValT} {p : Txt × List ValT} {fs : List Int} : hitV id low high p (id, fs) = (entOf id fs low high p).isSome := by
  unfold hitV entOf
  simp only [decide_true, Bool.true_and]
  cases showV id fs p.2 with
  | none => rfl
  | some key =>
    simp only
    cases liesV key low high <;> rfl
theorem hits_row {L : List (Int × List Int)} {id : Int} {fs : List Int} (h : L.filter (fun p => decide (p.1 = id)) = [(id, fs)]) (low high : List ValT) (p : Txt × List ValT) : (L.filter (hitV id low high p)).length = if (entOf id fs low high p).isSome = true then 1 else 0 := by
  have e : L.filter (hitV id low high p) = (L.filter (fun p => decide (p.1 = id))).filter (hitV id low high p) := by
    rw [List.filter_filter]
    refine List.filter_congr fun x _ => ?_
    unfold hitV
    cases decide (x.1 = id) <;> simp
  rw [e, h, List.filter_cons, hit_ent]
  split <;> rfl
/-- How many pairs hit among the first i rows. -/
noncomputable def hitsV (L : List (Int × List Int)) (id : Int) (low high : List ValT) : RowsT → Nat
  | [] => 0
  | p :: t => (L.filter (hitV id low high p)).length + hitsV L id low high t
theorem hitsV_snoc (L : List (Int × List Int)) (id : Int) (low high : List ValT) (p : Txt × List ValT) : ∀ R : RowsT, hitsV L id low high (R ++ [p]) = hitsV L id low high R + (L.filter (hitV id low high p)).length
  | [] => by simp [hitsV]
  | q :: t => by simp only [List.cons_append, hitsV, hitsV_snoc L id low high p t]; omega
theorem hitsV_eq {L : List (Int × List Int)} {id : Int} {fs : List Int} (h : L.filter (fun p => decide (p.1 = id)) = [(id, fs)]) (low high : List ValT) : ∀ R : RowsT, hitsV L id low high R = (R.filterMap (entOf id fs low high)).length
  | [] => rfl
  | p :: t => by
    have ih := hitsV_eq h low high t
    rw [hitsV, hits_row h, ih, List.filterMap_cons]
    cases entOf id fs low high p with
    | none => simp
    | some e => simp only [Option.isSome_some, ↓reduceIte, List.length_cons]; omega
/-- A row that hits is among those that a query gives. -/
theorem hit_found {R : RowsT} (hR : Rising R) {L : List (Int × List Int)} {id : Int} {fs : List Int} (h : L.filter (fun p => decide (p.1 = id)) = [(id, fs)]) {low high : List ValT} {p : Txt × List ValT} {x : Int × List Int} (hp : p ∈ R) (hx : x ∈ L) (hh : hitV id low high p x = true) : p ∈ (areaV R id fs low high).map fun e => rowOf R e.2 := by
  have hx1 : x.1 = id := by
    unfold hitV at hh
    rw [Bool.and_eq_true] at hh
    exact of_decide_eq_true hh.1
  have hm : x ∈ L.filter (fun p => decide (p.1 = id)) := List.mem_filter.2 ⟨hx, decide_eq_true hx1⟩
  rw [h] at hm
  simp only [List.mem_cons, List.not_mem_nil, or_false] at hm
  subst hm
  rw [hit_ent] at hh
  obtain ⟨e, he⟩ := Option.isSome_iff_exists.1 hh
  obtain ⟨key, _, _, rfl⟩ := entOf_some he
  refine List.mem_map.2 ⟨_, (areaV_perm R id fs low high).mem_iff.2 (List.mem_filterMap.2 ⟨p, hp, he⟩), ?_⟩
  unfold rowOf
  rw [T.getK_of_mem (rising_nodup hR) (show (p.1, p.2) ∈ R from hp)]
  rfl
end Go.Proofs.YtonblppkidpmlaaGreatDoor.E
