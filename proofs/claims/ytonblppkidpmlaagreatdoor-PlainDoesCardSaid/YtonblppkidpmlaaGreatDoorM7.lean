import Derived.Test.YtonblppkidpmlaaGreatDoorM4
import Derived.Test.YtonblppkidpmlaaGreatDoorM5
import Derived.Test.YtonblppkidpmlaaGreatDoorM6
namespace Go.Proofs.YtonblppkidpmlaaGreatDoor.E
open Go Go.RowKit
set_option linter.unusedSimpArgs false
set_option linter.unusedVariables false

def goodV (v : ValT) : Bool := decide ((v.1 = 0 ∧ v.2.1 = 0 ∧ v.2.2.1.data.toList = []) ∨ (v.1 = 1 ∧ v.2.2.1.data.toList = []) ∨ (v.1 = 2 ∧ v.2.1 = 0 ∧ v.2.2.1.size ≤ 32))
def rowE (l : List ValT) : Int := if 4 < l.length then 4 else if l.all goodV then 0 else 1
def recE (l : List ValT) : Int := if l.length = 0 then 1 else rowE l
def keyOk (s : ByteArray) : Bool := decide (1 ≤ s.size ∧ s.size ≤ 16)
theorem goodV_0 {n : Int} {s : ByteArray} : goodV (0, n, s, ()) = decide (n = 0 ∧ s.data.toList = []) := by
  unfold goodV; simp
theorem goodV_1 {n : Int} {s : ByteArray} : goodV (1, n, s, ()) = decide (s.data.toList = []) := by
  unfold goodV; simp
theorem goodV_2 {n : Int} {s : ByteArray} : goodV (2, n, s, ()) = decide (n = 0 ∧ s.size ≤ 32) := by
  unfold goodV; simp
theorem goodV_x {k n : Int} {s : ByteArray} (h0 : k ≠ 0) (h1 : k ≠ 1) (h2 : k ≠ 2) : goodV (k, n, s, ()) = false := by
  unfold goodV; simp [h0, h1, h2]
section
variable {w : World} {g : Nat} {x : ValT}
theorem vc0 (h : Blk w g 67 (valF x).toArray) : w.cell? ⟨g, 0, none⟩ = some (.int .i64 x.1) := h.cell 0
theorem vc1 (h : Blk w g 67 (valF x).toArray) : w.cell? ⟨g, 1, none⟩ = some (.int .i64 x.2.1) := h.cell 1
theorem vc2 (h : Blk w g 67 (valF x).toArray) : w.cell? ⟨g, 2, none⟩ = some (.string x.2.2.1) := h.cell 2
end
def sameV (x y : ValT) : Bool := x.1 == y.1 && (x.2.1 == y.2.1 && (x.2.2.1.toList == y.2.2.1.toList && true))
theorem run_eqV (x y : ValT) (w : World) : (Op.eqFields 9999 (valF x).toArray (valF y).toArray (Tryz.prog.fieldsOf 67).toList).run Tryz.prog w = .ok (sameV x y) w := by
  have e : (Tryz.prog.fieldsOf 67).toList = [(Tryz.prog.fieldsOf 67)[0]!, (Tryz.prog.fieldsOf 67)[1]!, (Tryz.prog.fieldsOf 67)[2]!] := by kernel_rfl
  rw [e]
  have t0 : ((Tryz.prog.fieldsOf 67)[0]!).type = 3 := by kernel_rfl
  have t1 : ((Tryz.prog.fieldsOf 67)[1]!).type = 3 := by kernel_rfl
  have t2 : ((Tryz.prog.fieldsOf 67)[2]!).type = 9 := by kernel_rfl
  have o0 : ((Tryz.prog.fieldsOf 67)[0]!).offset = 0 := by kernel_rfl
  have o1 : ((Tryz.prog.fieldsOf 67)[1]!).offset = 1 := by kernel_rfl
  have o2 : ((Tryz.prog.fieldsOf 67)[2]!).offset = 2 := by kernel_rfl
  refine eqFields_cons (by decide +kernel) (by rw [t0]; exact und3) rfl (u := .int .i64 x.1) (u' := .int .i64 y.1) (by rw [o0]; rfl) (by rw [o0]; rfl) (by rw [t0, run_equalIn_int w 9998 3 .i64 .i64 _ _ und3]) ?_
  refine eqFields_cons (by decide +kernel) (by rw [t1]; exact und3) rfl (u := .int .i64 x.2.1) (u' := .int .i64 y.2.1) (by rw [o1]; rfl) (by rw [o1]; rfl) (by rw [t1, run_equalIn_int w 9998 3 .i64 .i64 _ _ und3]) ?_
  refine eqFields_cons (by decide +kernel) (by rw [t2]; exact und9) rfl (u := .string x.2.2.1) (u' := .string y.2.2.1) (by rw [o2]; rfl) (by rw [o2]; rfl) (by rw [t2, run_equalIn_string w 9998 9 _ _ und9]) ?_
  simp [Op.eqFields]
theorem guardV : Tryz.prog.eqGuardType Tryz.prog.depth 67 = false := by kernel_rfl
theorem fieldsV : Tryz.prog.underlying 67 = some (.struct (Tryz.prog.fieldsOf 67)) := by kernel_rfl
theorem heldV : Tryz.prog.stoodInHeld 67 = false := by kernel_rfl
theorem pr_neqV {x' y' : Operand} (x y : ValT) : PR Tryz.prog (binS .neq 67 x' y' (.agg (valF x).toArray) (.agg (valF y).toArray)) (.bool (!sameV x y)) := by
  intro w
  simp only [binS, Sem.run_bind, run_eqGuard_agg w .neq 67 x' y' (valF x).toArray (valF y).toArray guardV, Result.andThen_ok]
  rw [run_neq_struct, run_equalIn_agg w 9999 67 _ _ fieldsV heldV, run_eqV]
  rfl
theorem pr_eqlV {x' y' : Operand} (x y : ValT) : PR Tryz.prog (binS .eql 67 x' y' (.agg (valF x).toArray) (.agg (valF y).toArray)) (.bool (sameV x y)) := by
  intro w
  simp only [binS, Sem.run_bind, run_eqGuard_agg w .eql 67 x' y' (valF x).toArray (valF y).toArray guardV, Result.andThen_ok]
  rw [run_eql_struct, run_equalIn_agg w 9999 67 _ _ fieldsV heldV, run_eqV]
  rfl
theorem sameV_iff (x y : ValT) : sameV x y = true ↔ x = y := by
  obtain ⟨a, b, c, _⟩ := x
  obtain ⟨a', b', c', _⟩ := y
  simp only [sameV, Bool.and_eq_true, beq_iff_eq, and_true, Prod.mk.injEq]
  constructor
  · rintro ⟨h1, h2, h3⟩
    refine ⟨h1, h2, ?_⟩
    rw [ByteArray.toList_eq, ByteArray.toList_eq] at h3
    cases c; cases c'
    simp only [ByteArray.mk.injEq]
    exact Array.toList_inj.1 h3
  · rintro ⟨h1, h2, h3⟩
    exact ⟨h1, h2, by rw [h3]⟩
theorem good_spec (x : ValT) (w : World) : CallP Tryz.prog 100 #[.agg (valF x).toArray] (fun r w' => r = .bool (goodV x) ∧ Below w.heap.size w w') w := by
  obtain ⟨k, n, s, _⟩ := x
  refine ⟨S100.calls _ _ _ ?_⟩
  unfold S100
  refine bxB ?_
  intro g w1 hg hB hb
  have c0 := vc0 hB
  have c1 := vc1 hB
  have c2 := vc2 hB
  (repeat with_reducible first|refine fd v0 (by decide) ?_|refine ld one3 c0 ?_)
  refine bi_eql_c (fun h0 => ?_) (fun h0 => ?_)
  · have h0 : k = 0 := h0
    subst h0
    (repeat with_reducible first|refine z_b ?_)
    refine ldA aggVal hB (by exact szVal) ?_
    refine bd (cells := (valF (0, 0, ⟨#[]⟩, ())).toArray) (by kernel_rfl) ?_
    refine ofPR (pr_eqlV _ _) ?_
    refine ⟨?_, hb⟩
    rw [goodV_0]
    congr 1
    rw [Bool.eq_iff_iff, sameV_iff, decide_eq_true_iff]
    simp only [Prod.mk.injEq, true_and, and_true]
    constructor
    · rintro ⟨rfl, rfl⟩; exact ⟨rfl, rfl⟩
    · rintro ⟨rfl, h⟩
      refine ⟨rfl, ?_⟩
      cases s
      simp only [ByteArray.mk.injEq]
      exact Array.toList_inj.1 h
  (repeat with_reducible first|refine z_c ?_)
  refine bi_eql_c (fun h1 => ?_) (fun h1 => ?_)
  · have h1 : k = 1 := h1
    subst h1
    (repeat with_reducible first|refine fd v2 (by decide) ?_|refine ld one9 c2 ?_|refine z_b ?_)
    refine bi_seql ?_
    exact ⟨by rw [goodV_1], hb⟩
  (repeat with_reducible first|refine z_c ?_)
  refine bi_eql_c (fun h2 => ?_) (fun h2 => ?_)
  · have h2 : k = 2 := h2
    subst h2
    (repeat with_reducible first|refine fd v1 (by decide) ?_|refine ld one3 c1 ?_|refine z_b ?_)
    refine bi_eql_c (fun h3 => ?_) (fun h3 => ?_)
    · (repeat with_reducible first|refine fd v2 (by decide) ?_|refine ld one9 c2 ?_|refine z_d ?_)
      refine lns und9 ?_
      (repeat with_reducible first|refine z_d ?_)
      refine bi_leq ?_
      (repeat with_reducible first|refine z_k ?_)
      refine ⟨?_, hb⟩
      rw [goodV_2]
      congr 1
      rw [decide_eq_decide]
      have h3 : n = 0 := h3
      simp only [h3, true_and]
      omega
    · (repeat with_reducible first|refine z_e ?_|refine z_l ?_)
      refine ⟨?_, hb⟩
      rw [goodV_2, decide_eq_false fun h => h3 h.1]
  · (repeat with_reducible first|refine z_c ?_)
    exact ⟨by rw [goodV_x h0 h1 h2], hb⟩
theorem refGood_spec (x : ValT) (w : World) : CallP Tryz.prog 68 #[.agg (valF x).toArray] (fun r w' => r = .bool (goodV x) ∧ Below w.heap.size w w') w := by
  obtain ⟨k, n, s, _⟩ := x
  refine ⟨S68.calls _ _ _ ?_⟩
  unfold S68
  refine bxB ?_
  intro g w1 hg hB hb
  have c0 := vc0 hB
  have c1 := vc1 hB
  have c2 := vc2 hB
  (repeat with_reducible first|refine fd v0 (by decide) ?_|refine ld one3 c0 ?_)
  by_cases h0 : k = 0
  · subst h0
    (repeat with_reducible first|refine fd v1 (by decide) ?_|refine ld one3 c1 ?_|refine z_d ?_|refine z_q (by omega) ?_)
    refine bi_eql_c (fun h3 => ?_) (fun h3 => ?_)
    · have h3 : n = 0 := h3
      subst h3
      (repeat with_reducible first|refine fd v2 (by decide) ?_|refine ld one9 c2 ?_|refine z_d ?_|refine z_k ?_)
      refine bi_seql_c (fun h4 => ?_) (fun h4 => ?_)
      · (repeat with_reducible first|refine z_f ?_|refine z_g ?_|refine z_k ?_)
        exact ⟨by rw [goodV_0, decide_eq_true ⟨rfl, h4⟩], hb⟩
      · (repeat with_reducible first|refine fd v0 (by decide) ?_|refine ld one3 c0 ?_|refine z_d ?_|refine z_e ?_|refine z_k ?_|refine z_l ?_|refine z_r (by omega) ?_)
        exact ⟨by rw [goodV_0, decide_eq_false fun h => h4 h.2], hb⟩
    · (repeat with_reducible first|refine fd v0 (by decide) ?_|refine ld one3 c0 ?_|refine z_d ?_|refine z_e ?_|refine z_k ?_|refine z_l ?_|refine z_r (by omega) ?_)
      exact ⟨by rw [goodV_0, decide_eq_false fun h => h3 h.1], hb⟩
  by_cases h1 : k = 1
  · subst h1
    (repeat with_reducible first|refine fd v0 (by decide) ?_|refine ld one3 c0 ?_|refine fd v2 (by decide) ?_|refine ld one9 c2 ?_|refine z_d ?_|refine z_e ?_|refine z_l ?_|refine z_q (by omega) ?_|refine z_r (by omega) ?_)
    refine bi_seql_c (fun h4 => ?_) (fun h4 => ?_)
    · (repeat with_reducible first|refine z_d ?_|refine z_f ?_|refine z_g ?_|refine z_k ?_|refine z_l ?_)
      exact ⟨by rw [goodV_1, decide_eq_true h4], hb⟩
    · (repeat with_reducible first|refine fd v0 (by decide) ?_|refine ld one3 c0 ?_|refine z_d ?_|refine z_e ?_|refine z_k ?_|refine z_l ?_|refine z_r (by omega) ?_)
      exact ⟨by rw [goodV_1, decide_eq_false h4], hb⟩
  by_cases h2 : k = 2
  · subst h2
    (repeat with_reducible first|refine fd v0 (by decide) ?_|refine ld one3 c0 ?_|refine fd v1 (by decide) ?_|refine ld one3 c1 ?_|refine z_d ?_|refine z_e ?_|refine z_l ?_|refine z_q (by omega) ?_|refine z_r (by omega) ?_)
    refine bi_eql_c (fun h3 => ?_) (fun h3 => ?_)
    · have h3 : n = 0 := h3
      (repeat with_reducible first|refine fd v2 (by decide) ?_|refine ld one9 c2 ?_|refine z_d ?_|refine z_k ?_)
      refine lns und9 ?_
      (repeat with_reducible first|refine z_d ?_)
      refine bi_leq ?_
      (repeat with_reducible first|refine z_d ?_|refine z_k ?_|refine z_l ?_)
      refine ⟨?_, hb⟩
      rw [goodV_2]
      congr 1
      rw [decide_eq_decide]
      simp only [h3, true_and]
      omega
    · (repeat with_reducible first|refine z_d ?_|refine z_e ?_|refine z_k ?_|refine z_l ?_)
      exact ⟨by rw [goodV_2, decide_eq_false fun h => h3 h.1], hb⟩
  (repeat with_reducible first|refine fd v0 (by decide) ?_|refine ld one3 c0 ?_|refine z_d ?_|refine z_e ?_|refine z_l ?_|refine z_r (by omega) ?_)
  exact ⟨by rw [goodV_x h0 h1 h2], hb⟩
end Go.Proofs.YtonblppkidpmlaaGreatDoor.E
