import Derived.Test.YtonblppkidpmlaaGreatDoorM1
import Derived.Test.YtonblppkidpmlaaGreatDoorProg
import Derived.KernelRfl
import Derived.Test.YtonblppkidpmlaaGreatDoorMn
import Derived.Shelf.Vars
namespace Go.Proofs.YtonblppkidpmlaaGreatDoor.E
open Go
set_option maxRecDepth 100000

/-- shelfmark/shelfmarklaw05.PlainPages -/
def S4 (a0 a1 a2 a3 : Value) (R : Value → World → Prop) (w : World) : Prop :=
  CallP Tryz.prog 9 #[] (fun v17 w =>
  LiftP Tryz.prog (Op.unary Go.UnOp.not v17) (fun v18 w =>
  CondP v18 (fun w =>
    R (Go.Value.bool false) w) (fun w =>
    CallP Tryz.prog 13 #[a0, (Go.Value.int Go.IntKind.i64 60)] (fun v20 w =>
  LiftP Tryz.prog (Op.unary Go.UnOp.not v20) (fun v21 w =>
  GuardP v21 false (fun K w => K a1 w) (fun v23 w =>
  GuardP v21 false (fun K w => NextP Tryz.prog (builtin Go.Builtin.len #[9] 3 #[false] #[v23]) K w) (fun v24 w =>
  GuardP v21 false (fun K w => LiftP Tryz.prog (binS Go.BinOp.gtr 3 (Go.Operand.tmp 24) (Go.Operand.const (Go.Value.int Go.IntKind.i64 15)) v24 (Go.Value.int Go.IntKind.i64 15)) K w) (fun v25 w =>
  PickP v21 (Go.Value.bool true) v25 (fun v26 w =>
  GuardP v26 false (fun K w => K a2 w) (fun v28 w =>
  GuardP v26 false (fun K w => NextP Tryz.prog (builtin Go.Builtin.len #[9] 3 #[false] #[v28]) K w) (fun v29 w =>
  GuardP v26 false (fun K w => LiftP Tryz.prog (binS Go.BinOp.gtr 3 (Go.Operand.tmp 29) (Go.Operand.const (Go.Value.int Go.IntKind.i64 15)) v29 (Go.Value.int Go.IntKind.i64 15)) K w) (fun v30 w =>
  PickP v26 (Go.Value.bool true) v30 (fun v31 w =>
  GuardP v31 false (fun K w => K a3 w) (fun v33 w =>
  GuardP v31 false (fun K w => LiftP Tryz.prog (binS Go.BinOp.lss 3 (Go.Operand.tmp 33) (Go.Operand.const (Go.Value.int Go.IntKind.i64 1)) v33 (Go.Value.int Go.IntKind.i64 1)) K w) (fun v34 w =>
  PickP v31 (Go.Value.bool true) v34 (fun v35 w =>
  GuardP v35 false (fun K w => K a3 w) (fun v37 w =>
  GuardP v35 false (fun K w => LiftP Tryz.prog (binS Go.BinOp.gtr 3 (Go.Operand.tmp 37) (Go.Operand.const (Go.Value.int Go.IntKind.i64 64)) v37 (Go.Value.int Go.IntKind.i64 64)) K w) (fun v38 w =>
  PickP v35 (Go.Value.bool true) v38 (fun v39 w =>
  CondP v39 (fun w =>
    R (Go.Value.bool true) w) (fun w =>
    CallP Tryz.prog 14 #[] (fun v40 w =>
  LoopP (fun J vs w =>   -- [10]
    NextP Tryz.prog (builtin Go.Builtin.len #[31] 3 #[false] #[a0]) (fun v43 w =>
    LiftP Tryz.prog (binS Go.BinOp.lss 3 (Go.Operand.tmp 41) (Go.Operand.tmp 43) (vs.headD undef) v43) (fun v44 w =>
    CondP v44 (fun w =>
      LiftP Tryz.prog (Instr.indexAt 31 a0 (vs.headD undef)) (fun v50 w =>
    LiftP Tryz.prog (Instr.loadAt 26 v50) (fun v51 w =>
    CallP Tryz.prog 15 #[v40, v51] (fun v52 w =>
    LiftP Tryz.prog (binS Go.BinOp.add 3 (Go.Operand.tmp 45) (Go.Operand.const (Go.Value.int Go.IntKind.i64 1)) (vs.headD undef) (Go.Value.int Go.IntKind.i64 1)) (fun v46 w =>
    J [v46] w) w) w) w) w) (fun w =>
      LiftP Tryz.prog (Instr.build 26 #[(0, (Go.Value.int Go.IntKind.i64 5)), (1, a1), (2, a2), (9, (Go.Value.int Go.IntKind.i64 64))]) (fun v56 w =>
  CallP Tryz.prog 15 #[v40, v56] (fun v57 w =>
  LiftP Tryz.prog (Instr.field 37 v57 3) (fun v58 w =>
  JoinP (fun J_1 w =>
    LoopP (fun J_2 vs_2 w =>   -- [12, 13, 14]
      LiftP Tryz.prog (binS Go.BinOp.lss 3 (Go.Operand.tmp 60) (Go.Operand.const (Go.Value.int Go.IntKind.i64 70)) (vs_2.tail.tail.headD undef) (Go.Value.int Go.IntKind.i64 70)) (fun v61 w =>
      CondP v61 (fun w =>
        LiftP Tryz.prog (Instr.build 26 #[(0, (Go.Value.int Go.IntKind.i64 5)), (1, (vs_2.tail.headD undef)), (2, a2), (9, a3)]) (fun v68 w =>
      CallP Tryz.prog 15 #[v40, v68] (fun v69 w =>
      LiftP Tryz.prog (Instr.field 37 v69 3) (fun v70 w =>
      NextP Tryz.prog (builtin Go.Builtin.append #[35, 35] 35 #[false, false] #[(vs_2.headD undef), v70]) (fun v73 w =>
      NextP Tryz.prog (builtin Go.Builtin.len #[35] 3 #[false] #[v70]) (fun v75 w =>
      LiftP Tryz.prog (binS Go.BinOp.lss 3 (Go.Operand.tmp 75) (Go.Operand.tmp 76) v75 a3) (fun v77 w =>
      CondP v77 (fun w =>
        J_1 [v73] w) (fun w =>
        NextP Tryz.prog (builtin Go.Builtin.len #[35] 3 #[false] #[v70]) (fun v80 w =>
      LiftP Tryz.prog (binS Go.BinOp.sub 3 (Go.Operand.tmp 80) (Go.Operand.const (Go.Value.int Go.IntKind.i64 1)) v80 (Go.Value.int Go.IntKind.i64 1)) (fun v81 w =>
      LiftP Tryz.prog (Instr.indexAt 35 v70 v81) (fun v82 w =>
      LiftP Tryz.prog (Instr.fieldAt 40 v82 0) (fun v83 w =>
      LiftP Tryz.prog (Instr.loadAt 9 v83) (fun v84 w =>
      NextP Tryz.prog (builtin Go.Builtin.len #[9] 3 #[false] #[v84]) (fun v86 w =>
      LiftP Tryz.prog (binS Go.BinOp.geq 3 (Go.Operand.tmp 86) (Go.Operand.const (Go.Value.int Go.IntKind.i64 16)) v86 (Go.Value.int Go.IntKind.i64 16)) (fun v87 w =>
      CondP v87 (fun w =>
        R (Go.Value.bool true) w) (fun w =>
        LiftP Tryz.prog (binS Go.BinOp.add 9 (Go.Operand.tmp 88) (Go.Operand.const (Go.Value.string { data := #[0] })) v84 (Go.Value.string { data := #[0] })) (fun v89 w =>
      LiftP Tryz.prog (binS Go.BinOp.add 3 (Go.Operand.tmp 62) (Go.Operand.const (Go.Value.int Go.IntKind.i64 1)) (vs_2.tail.tail.headD undef) (Go.Value.int Go.IntKind.i64 1)) (fun v63 w =>
      J_2 [v73, v89, v63] w) w) w) w) w) w) w) w) w) w) w) w) w) w) w) w) w) w) (fun w =>
        J_1 [(vs_2.headD undef)] w) w) w) [(Go.Value.slice none 0 0), a1, (Go.Value.int Go.IntKind.i64 0)] w) (fun vs_1 w =>   -- [12]
  CallP Tryz.prog 16 #[(vs_1.headD undef), v58] (fun v92 w =>
  R v92 w) w) w) w) w) w) w) w) w) [(Go.Value.int Go.IntKind.i64 0)] w) w) w) w) w) w) w) w) w) w) w) w) w) w) w) w) w) w) w) w) w) w
theorem S4.calls (a0 a1 a2 a3 : Value) (R : Value → World → Prop) (w : World) (h : S4 a0 a1 a2 a3 R w) : Calls Tryz.prog 4 #[a0, a1, a2, a3] w fun e w' => ∃ v, e = .returned v ∧ R v w' :=
  calls_of_tr (n := 93) (c := bodyOf Tryz.f4) (.two .leaf (.two (.two .leaf (.two (.two .leaf .leaf) .leaf)) (.two (.two .leaf (.two (.two .leaf .leaf) .leaf)) (.two .leaf (.two (.two .leaf (.one (.loop [10] (.two (.two .leaf (.two .leaf .leaf)) (.two (.one .leaf) .leaf))))) (.two .leaf (.two .leaf (.two .leaf (.join [12] (.two .leaf (.one (.loop [12, 13, 14] (.two (.two .leaf (.two .leaf .leaf)) (.two (.one (.two .leaf (.two .leaf (.two (.two .leaf (.two .leaf .leaf)) (.two .leaf (.two (.two .leaf (.two (.two .leaf .leaf) .leaf)) .leaf)))))) .leaf))))) (.two .leaf .leaf)))))))))) Tryz.func4 (by kernel_rfl) Tryz.ntmps4 (by kernel_rfl) (by kernel_rfl) [a0, a1, a2, a3] (by kernel_rfl) (of_eq_ (by kernel_rfl) h)

end Go.Proofs.YtonblppkidpmlaaGreatDoor.E
namespace Go.Proofs.YtonblppkidpmlaaGreatDoor.E
open Go Go.RowKit
set_option linter.unusedSimpArgs false
set_option linter.unusedVariables false

end Go.Proofs.YtonblppkidpmlaaGreatDoor.E
namespace Go.Proofs.YtonblppkidpmlaaGreatDoor.E
open Go Go.RowKit
theorem gmx_of {w : World} (h : w.ShapedOpen Tryz.prog) : GMx w :=
  cell_of_shapedOpen_int (g := 0) (t := 3) (zero := #[.int .i64 0]) (k := .i64) h (of_decide_eq_true (by kernel_rfl)) (by kernel_rfl) rfl (by kernel_rfl) (by kernel_rfl) und3
end Go.Proofs.YtonblppkidpmlaaGreatDoor.E
namespace Go.Proofs.YtonblppkidpmlaaGreatDoor.E
open Go Go.RowKit
set_option linter.unusedSimpArgs false
set_option linter.unusedVariables false

end Go.Proofs.YtonblppkidpmlaaGreatDoor.E
namespace Go.Proofs.YtonblppkidpmlaaGreatDoor.E
open Go Go.RowKit
set_option linter.unusedSimpArgs false
set_option linter.unusedVariables false

theorem lt_snoc0 : ∀ (k l : Txt), k < l ++ [0] ↔ ¬ l < k
  | [], [] => by simp
  | a :: t, [] => by
    simp only [List.nil_append, List.cons_lt_cons_iff, List.nil_lt_cons, not_true_eq_false, iff_false, List.not_lt_nil, and_false, or_false]
    have : (0 : UInt8) ≤ a := UInt8.zero_le
    exact UInt8.not_lt.2 this
  | [], b :: l => by simp
  | a :: t, b :: l => by
    have ih := lt_snoc0 t l
    rw [List.cons_append, List.cons_lt_cons_iff, List.cons_lt_cons_iff, ih]
    constructor
    · rintro (h | ⟨rfl, h⟩) (h' | ⟨h1, h'⟩)
      · exact UInt8.lt_asymm h h'
      · exact UInt8.lt_irrefl _ (h1 ▸ h)
      · exact UInt8.lt_irrefl _ h'
      · exact h h'
    · intro h
      have htri : a < b ∨ a = b ∨ b < a := by grind
      rcases htri with h' | h' | h'
      · exact .inl h'
      · exact .inr ⟨h', fun e => h (.inr ⟨h'.symm, e⟩)⟩
      · exact absurd (.inl h') h
theorem scanV_rising {R : RowsT} (h : Rising R) (k to : Txt) : Rising (scanV R k to) := h.sublist List.filter_sublist
theorem rising_drop {α : Type} {last : Txt} : ∀ {L : List (Txt × α)} {n : Nat} (_ : Rising L) (hn : n < L.length), L[n].1 = last → L.filter (fun p => decide (¬ p.1 < last ++ [0])) = L.drop (n + 1)
  | [], n, _, hn, _ => by simp at hn
  | (a, x) :: t, 0, hR, hn, h => by
    have h' := List.pairwise_cons.1 hR
    subst h
    rw [List.filter_cons, if_neg (by simp only [List.getElem_cons_zero, decide_eq_true_eq]; rw [lt_snoc0]; simp), List.drop_succ_cons, List.drop_zero, List.filter_eq_self]
    intro p hp
    simp only [List.getElem_cons_zero, decide_eq_true_eq]
    rw [lt_snoc0, Classical.not_not]
    exact h'.1 p hp
  | (a, x) :: t, n + 1, hR, hn, h => by
    have h' := List.pairwise_cons.1 hR
    have hn' : n < t.length := by simpa using hn
    have ih := rising_drop (last := last) h'.2 hn' h
    rw [List.filter_cons, if_neg, ih, List.drop_succ_cons]
    simp only [decide_eq_true_eq]
    rw [lt_snoc0, Classical.not_not]
    intro hl
    have h2 := h'.1 _ (List.getElem_mem hn')
    have h3 : t[n].1 = last := h
    rw [h3] at h2
    exact lt_asy h2 hl
/-- The rows behind a page are those of the next scan. -/
theorem scan_next {R : RowsT} (hR : Rising R) (k to : Txt) (n : Nat) (hn : n < (scanV R k to).length) : scanV R ((scanV R k to)[n].1 ++ [0]) to = (scanV R k to).drop (n + 1) := by
  have h1 := rising_drop (scanV_rising hR k to) hn rfl
  rw [← h1]
  have hm := List.getElem_mem hn
  obtain ⟨q, hq⟩ : ∃ q, q = (scanV R k to)[n] := ⟨_, rfl⟩
  rw [← hq] at hm ⊢
  have hk : ¬ q.1 < k := (of_decide_eq_true (List.mem_filter.1 hm).2).1
  show R.filter _ = (R.filter _).filter _
  rw [List.filter_filter]
  refine List.filter_congr fun p _ => ?_
  rw [← Bool.decide_and, decide_eq_decide]
  constructor
  · rintro ⟨h, h'⟩
    refine ⟨h, fun hp => ?_, h'⟩
    rw [lt_snoc0, Classical.not_not] at h
    exact hk (lt_tr h hp)
  · rintro ⟨h, _, h'⟩
    exact ⟨h, h'⟩
end Go.Proofs.YtonblppkidpmlaaGreatDoor.E
