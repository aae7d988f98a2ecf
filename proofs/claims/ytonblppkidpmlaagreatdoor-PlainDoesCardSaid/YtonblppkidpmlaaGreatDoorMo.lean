import Derived.Test.YtonblppkidpmlaaGreatDoorM1
import Derived.Test.YtonblppkidpmlaaGreatDoorProg
import Derived.KernelRfl
import Derived.Test.YtonblppkidpmlaaGreatDoorMn
import Derived.Shelf.Vars
namespace Go.Proofs.YtonblppkidpmlaaGreatDoor.E
open Go
set_option maxRecDepth 100000

/-- shelfmark/shelfmarklaw05.PlainDoes -/
def S7 (a0 : Value) (R : Value → World → Prop) (w : World) : Prop :=
  CallP Tryz.prog 9 #[] (fun v7 w =>
  LiftP Tryz.prog (Op.unary Go.UnOp.not v7) (fun v8 w =>
  CondP v8 (fun w =>
    R (Go.Value.bool false) w) (fun w =>
    CallP Tryz.prog 13 #[a0, (Go.Value.int Go.IntKind.i64 60)] (fun v10 w =>
  LiftP Tryz.prog (Op.unary Go.UnOp.not v10) (fun v11 w =>
  CondP v11 (fun w =>
    R (Go.Value.bool true) w) (fun w =>
    CallP Tryz.prog 14 #[] (fun v12 w =>
  CallP Tryz.prog 24 #[] (fun v13 w =>
  LoopP (fun J vs w =>   -- [5]
    NextP Tryz.prog (builtin Go.Builtin.len #[31] 3 #[false] #[a0]) (fun v16 w =>
    LiftP Tryz.prog (binS Go.BinOp.lss 3 (Go.Operand.tmp 14) (Go.Operand.tmp 16) (vs.headD undef) v16) (fun v17 w =>
    CondP v17 (fun w =>
      DrawP (fun S w =>
    YieldP Tryz.prog S (Instr.indexAt 31 a0 (vs.headD undef)) (fun v23 w =>
    YieldP Tryz.prog S (Instr.loadAt 26 v23) (fun v24 w =>
    YieldP Tryz.prog S (Instr.indexAt 31 a0 (vs.headD undef)) (fun v29 w =>
    YieldP Tryz.prog S (Instr.loadAt 26 v29) (fun v30 w =>
    ActP S (fun K w => CallP Tryz.prog 15 #[v12, v24] K w) (fun S v25 w =>
    ActP S (fun K w => CallP Tryz.prog 25 #[v13, v30] K w) (fun S v31 w =>
    ActP S (fun K w => CallP Tryz.prog 18 #[v25, v31] K w) (fun S v32 w =>
    YieldP Tryz.prog S (Op.unary Go.UnOp.not v32) (fun v33 w =>
    CondP v33 (fun w =>
      R (Go.Value.bool false) w) (fun w =>
      LiftP Tryz.prog (binS Go.BinOp.add 3 (Go.Operand.tmp 18) (Go.Operand.const (Go.Value.int Go.IntKind.i64 1)) (vs.headD undef) (Go.Value.int Go.IntKind.i64 1)) (fun v19 w =>
    J [v19] w) w) w) w) w) w) w) w) w) w) w) w) (fun w =>
      LoopP (fun J_1 vs_1 w =>   -- [6]
    LiftP Tryz.prog (binS Go.BinOp.lss 3 (Go.Operand.tmp 34) (Go.Operand.const (Go.Value.int Go.IntKind.i64 8)) (vs_1.headD undef) (Go.Value.int Go.IntKind.i64 8)) (fun v35 w =>
    CondP v35 (fun w =>
      CallP Tryz.prog 27 #[v12, (vs_1.headD undef)] (fun v40 w =>
    CallP Tryz.prog 28 #[v13, (vs_1.headD undef)] (fun v43 w =>
    CallP Tryz.prog 26 #[v40, v43] (fun v44 w =>
    LiftP Tryz.prog (Op.unary Go.UnOp.not v44) (fun v45 w =>
    CondP v45 (fun w =>
      R (Go.Value.bool false) w) (fun w =>
      LiftP Tryz.prog (binS Go.BinOp.add 3 (Go.Operand.tmp 36) (Go.Operand.const (Go.Value.int Go.IntKind.i64 1)) (vs_1.headD undef) (Go.Value.int Go.IntKind.i64 1)) (fun v37 w =>
    J_1 [v37] w) w) w) w) w) w) w) (fun w =>
      DrawP (fun S w =>
  YieldN Tryz.prog S (nilChk v13) (fun v49 w =>
  YieldP Tryz.prog S (Instr.fieldAt 63 v49 0) (fun v50 w =>
  YieldP Tryz.prog S (Instr.loadAt 35 v50) (fun v51 w =>
  ActP S (fun K w => CallP Tryz.prog 20 #[v12] K w) (fun S v47 w =>
  ActP S (fun K w => CallP Tryz.prog 16 #[v47, v51] K w) (fun S v52 w =>
  GuardP v52 true (fun K w => K v12 w) (fun v54 w =>
  GuardP v52 true (fun K w => K v13 w) (fun v56 w =>
  GuardA v52 true S (fun K w => CallP Tryz.prog 21 #[v54] K w) (fun S v55 w =>
  GuardA v52 true S (fun K w => CallP Tryz.prog 30 #[v56] K w) (fun S v57 w =>
  GuardA v52 true S (fun K w => CallP Tryz.prog 29 #[v55, v57] K w) (fun S v58 w =>
  PickP v52 v58 (Go.Value.bool false) (fun v59 w =>
  R v59 w) w) w) w) w) w) w) w) w) w) w) w) w) w) w) [(Go.Value.int Go.IntKind.i64 0)] w) w) w) w) [(Go.Value.int Go.IntKind.i64 0)] w) w) w) w) w) w) w) w) w
theorem S7.calls (a0 : Value) (R : Value → World → Prop) (w : World) (h : S7 a0 R w) : Calls Tryz.prog 7 #[a0] w fun e w' => ∃ v, e = .returned v ∧ R v w' :=
  calls_of_tr (n := 60) (c := bodyOf Tryz.f7) (.two .leaf (.two (.two .leaf (.two (.two .leaf .leaf) .leaf)) (.two (.two .leaf (.two (.two .leaf .leaf) .leaf)) (.two .leaf (.two (.two .leaf (.one (.loop [5] (.two (.two .leaf (.two .leaf .leaf)) (.two (.one (.two (.draw [(true, 0), (true, 1), (true, 2), (true, 3), (true, 4), (true, 6), (true, 7), (true, 8), (true, 9), (true, 10), (false, 5), (false, 11), (false, 12), (true, 13)]) (.two (.two .leaf .leaf) .leaf))) .leaf))))) (.two (.two .leaf (.one (.loop [6] (.two (.two .leaf (.two .leaf .leaf)) (.two (.one (.two .leaf (.two (.two .leaf .leaf) .leaf))) .leaf))))) (.two (.draw [(true, 0), (true, 2), (true, 3), (true, 4), (true, 5), (false, 1), (false, 6), (true, 7), (true, 8), (true, 10), (false, 9), (false, 11), (false, 12), (true, 13), (true, 14)]) .leaf))))))) Tryz.func7 (by kernel_rfl) Tryz.ntmps7 (by kernel_rfl) (by kernel_rfl) [a0] (by kernel_rfl) (of_eq_ (by kernel_rfl) h)

end Go.Proofs.YtonblppkidpmlaaGreatDoor.E
namespace Go.Proofs.YtonblppkidpmlaaGreatDoor.E
open Go Go.RowKit
set_option linter.unusedSimpArgs false
set_option linter.unusedVariables false

end Go.Proofs.YtonblppkidpmlaaGreatDoor.E
namespace Go.Proofs.YtonblppkidpmlaaGreatDoor.E
open Go Go.RowKit
theorem gmx_of {w : World} (h : w.ShapedOpen Tryz.prog) : GMx w :=
  cell_of_shapedOpen_int (g := 0) (t := 3) (zero := #[.int .i64 0]) (k := .i64) h (of_decide_eq_true (by kernel_rfl)) (by kernel_rfl) rfl (by kernel_rfl) (by kernel_rfl) und3
end Go.Proofs.YtonblppkidpmlaaGreatDoor.E
namespace Go.Proofs.YtonblppkidpmlaaGreatDoor.E
open Go Go.RowKit
set_option linter.unusedSimpArgs false
set_option linter.unusedVariables false

section
variable {α : Type}
/-- A key's place. -/
def posR (k : Txt) : List (Txt × α) → Nat
  | [] => 0
  | (a, x) :: t => if a < k then posR k t + 1 else 0
theorem posR_le (k : Txt) : ∀ R : List (Txt × α), posR k R ≤ R.length
  | [] => Nat.le_refl _
  | (a, x) :: t => by
    have := posR_le k t
    unfold posR
    split <;> simp only [List.length_cons] <;> omega
theorem posR_lt {k : Txt} : ∀ {R : List (Txt × α)} {j : Nat} (hj : j < R.length), j < posR k R → R[j].1 < k
  | [], j, hj, _ => by simp at hj
  | (a, x) :: t, j, hj, h => by
    unfold posR at h
    split at h
    · rename_i hl
      cases j with
      | zero => exact hl
      | succ j => exact posR_lt (R := t) (by simpa using hj) (by omega)
    · omega
theorem posR_at {k : Txt} : ∀ {R : List (Txt × α)} (h : posR k R < R.length), ¬ R[posR k R].1 < k
  | [], h => by simp at h
  | (a, x) :: t, h => by
    by_cases hl : a < k
    · have e : posR k ((a, x) :: t) = posR k t + 1 := by rw [posR, if_pos hl]
      simp only [e, List.getElem_cons_succ]
      exact posR_at (R := t) (by rw [e] at h; simpa using h)
    · have e : posR k ((a, x) :: t) = 0 := by rw [posR, if_neg hl]
      simp only [e, List.getElem_cons_zero]
      exact hl
theorem posR_step {k : Txt} {R : List (Txt × α)} {i : Nat} (hi : i ≤ posR k R) (hl : i < R.length) (h : R[i].1 < k) : i + 1 ≤ posR k R := by
  rcases Nat.lt_or_ge i (posR k R) with h1 | h1
  · exact h1
  · have e : i = posR k R := by omega
    subst e
    exact absurd h (posR_at hl)
theorem posR_stop {k : Txt} {R : List (Txt × α)} {i : Nat} (hi : i ≤ posR k R) (hl : i < R.length) (h : ¬ R[i].1 < k) : i = posR k R := by
  rcases Nat.lt_or_ge i (posR k R) with h1 | h1
  · exact absurd (posR_lt hl h1) h
  · omega
/-- Whether a key is there. -/
def isR (k : Txt) (R : List (Txt × α)) : Bool := match R[posR k R]? with
  | some p => decide (p.1 = k)
  | none => false
theorem isR_cons_lt {k a : Txt} {x : α} {t : List (Txt × α)} (h : a < k) : isR k ((a, x) :: t) = isR k t := by
  unfold isR
  have e : posR k ((a, x) :: t) = posR k t + 1 := by rw [posR, if_pos h]
  rw [e, List.getElem?_cons_succ]
theorem isR_cons_ge {k a : Txt} {x : α} {t : List (Txt × α)} (h : ¬ a < k) : isR k ((a, x) :: t) = decide (a = k) := by
  unfold isR
  have e : posR k ((a, x) :: t) = 0 := by rw [posR, if_neg h]
  rw [e]
  rfl
theorem insR_pos (k : Txt) (r : α) : ∀ (R : List (Txt × α)), insR k r R = R.take (posR k R) ++ (k, r) :: R.drop (if isR k R = true then posR k R + 1 else posR k R)
  | [] => rfl
  | (a, x) :: t => by
    have ih := insR_pos k r t
    unfold insR posR
    by_cases h : a < k
    · rw [if_pos h, if_pos h, isR_cons_lt h, ih, List.take_succ_cons, List.cons_append]
      congr 2
      split <;> rfl
    · rw [if_neg h, if_neg h, isR_cons_ge h]
      by_cases e : a = k
      · rw [if_pos e, if_pos (decide_eq_true e)]; rfl
      · rw [if_neg e, if_neg (by simpa using e)]; rfl
theorem getK_above {k : Txt} : ∀ {R : List (Txt × α)}, (∀ p ∈ R, k < p.1) → T.getK k R = none ∧ T.delK k R = R
  | [], _ => ⟨rfl, rfl⟩
  | (a, x) :: t, h => by
    have h1 : k < a := h (a, x) (by simp)
    have hne : ¬ k = a := fun e => lt_irr _ (e ▸ h1)
    obtain ⟨i1, i2⟩ := getK_above (R := t) fun p hp => h p (List.mem_cons_of_mem _ hp)
    unfold T.getK T.delK
    rw [if_neg hne, if_neg hne, i2]
    exact ⟨i1, rfl⟩
theorem rising_above {k : Txt} {a : Txt} {x : α} {t : List (Txt × α)} (hR : Rising ((a, x) :: t)) (h : ¬ a < k) (e : ¬ a = k) : ∀ p ∈ (a, x) :: t, k < p.1 := by
  have hk : k < a := by rcases lt_tri a k with h' | h' | h' <;> first | exact absurd h' h | exact absurd h' e | exact h'
  intro p hp
  rcases List.mem_cons.1 hp with rfl | hp
  · exact hk
  · exact lt_tr hk ((List.pairwise_cons.1 hR).1 p hp)
theorem getK_pos {k : Txt} : ∀ {R : List (Txt × α)}, Rising R → T.getK k R = if isR k R = true then (R[posR k R]?).map (·.2) else none
  | [], _ => rfl
  | (a, x) :: t, hR => by
    by_cases h : a < k
    · have hne : ¬ k = a := fun e => lt_irr _ (e ▸ h)
      have e : posR k ((a, x) :: t) = posR k t + 1 := by rw [posR, if_pos h]
      rw [T.getK, if_neg hne, getK_pos (List.pairwise_cons.1 hR).2, isR_cons_lt h, e, List.getElem?_cons_succ]
    · have e : posR k ((a, x) :: t) = 0 := by rw [posR, if_neg h]
      rw [isR_cons_ge h, e]
      by_cases h2 : a = k
      · rw [T.getK, if_pos h2.symm, if_pos (decide_eq_true h2)]; rfl
      · rw [(getK_above (rising_above hR h h2)).1, if_neg (by simpa using h2)]
theorem delK_pos {k : Txt} : ∀ {R : List (Txt × α)}, Rising R → T.delK k R = if isR k R = true then R.take (posR k R) ++ R.drop (posR k R + 1) else R
  | [], _ => rfl
  | (a, x) :: t, hR => by
    by_cases h : a < k
    · have hne : ¬ k = a := fun e => lt_irr _ (e ▸ h)
      have e : posR k ((a, x) :: t) = posR k t + 1 := by rw [posR, if_pos h]
      rw [T.delK, if_neg hne, delK_pos (List.pairwise_cons.1 hR).2, isR_cons_lt h, e]
      split <;> rfl
    · have e : posR k ((a, x) :: t) = 0 := by rw [posR, if_neg h]
      rw [isR_cons_ge h, e]
      by_cases h2 : a = k
      · rw [T.delK, if_pos h2.symm, if_pos (decide_eq_true h2)]; rfl
      · rw [(getK_above (rising_above hR h h2)).2, if_neg (by simpa using h2)]
theorem filter_all_lt {to : Txt} : ∀ {R : List (Txt × α)} {k : Txt}, Rising R → (∀ p ∈ R, ¬ p.1 < k) → R.filter (fun p => decide (¬ p.1 < k ∧ (to = [] ∨ p.1 < to))) = R.takeWhile fun p => decide (to = [] ∨ p.1 < to)
  | [], k, _, _ => rfl
  | (a, x) :: t, k, hR, hk => by
    have h' := List.pairwise_cons.1 hR
    have ih := filter_all_lt (to := to) h'.2 (k := k) fun p hp => hk p (List.mem_cons_of_mem _ hp)
    have h0 : ¬ a < k := hk (a, x) (by simp)
    rw [List.filter_cons, List.takeWhile_cons]
    by_cases h1 : to = [] ∨ a < to
    · rw [if_pos (decide_eq_true ⟨h0, h1⟩), if_pos (by simpa using h1), ih]
    · rw [if_neg (by simp only [decide_eq_true_eq]; exact fun e => h1 e.2), if_neg (by simpa using h1)]
      rw [List.filter_eq_nil_iff]
      intro p hp
      simp only [decide_eq_true_eq, not_and, not_or]
      intro _
      refine ⟨fun e => h1 (.inl e), fun e => h1 (.inr ?_)⟩
      exact lt_tr (h'.1 p hp) e
theorem scan_pos {k to : Txt} : ∀ {R : List (Txt × α)}, Rising R → R.filter (fun p => decide (¬ p.1 < k ∧ (to = [] ∨ p.1 < to))) = (R.drop (posR k R)).takeWhile fun p => decide (to = [] ∨ p.1 < to)
  | [], _ => rfl
  | (a, x) :: t, hR => by
    have h' := List.pairwise_cons.1 hR
    by_cases h : a < k
    · have e : posR k ((a, x) :: t) = posR k t + 1 := by rw [posR, if_pos h]
      rw [e, List.drop_succ_cons, ← scan_pos h'.2, List.filter_cons, if_neg (by simp only [decide_eq_true_eq]; exact fun e => e.1 h)]
    · have e : posR k ((a, x) :: t) = 0 := by rw [posR, if_neg h]
      rw [e, List.drop_zero]
      refine filter_all_lt hR fun p hp => ?_
      rcases List.mem_cons.1 hp with rfl | hp
      · exact h
      · exact fun hlt => h (lt_tr (h'.1 p hp) hlt)
end
end Go.Proofs.YtonblppkidpmlaaGreatDoor.E
namespace Go.Proofs.YtonblppkidpmlaaGreatDoor.E
open Go Go.RowKit
set_option linter.unusedSimpArgs false
set_option linter.unusedVariables false

def idxV : Nat → List (List Int) → List (Int × List Int)
  | _, [] => []
  | n, fs :: t => if fs.length = 0 then idxV (n + 1) t else ((n : Int) + 1, fs) :: idxV (n + 1) t
theorem idxV_take (n : Nat) : ∀ (X : List (List Int)) (i : Nat) (h : i < X.length), idxV n (X.take (i + 1)) = idxV n (X.take i) ++ (if X[i].length = 0 then [] else [(((n + i : Nat) : Int) + 1, X[i])])
  | fs :: t, 0, _ => by
    simp only [List.take_succ_cons, List.take_zero, idxV, List.getElem_cons_zero, Nat.add_zero]
    split <;> rfl
  | fs :: t, i + 1, h => by
    have ih := idxV_take (n + 1) t i (by simpa using h)
    simp only [List.take_succ_cons, idxV, List.getElem_cons_succ, ih]
    rw [show n + 1 + i = n + (i + 1) by omega]
    split <;> simp
end Go.Proofs.YtonblppkidpmlaaGreatDoor.E
