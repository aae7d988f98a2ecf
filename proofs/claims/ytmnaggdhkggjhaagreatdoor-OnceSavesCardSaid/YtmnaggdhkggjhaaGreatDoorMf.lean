import Derived.Test.YtmnaggdhkggjhaaGreatDoorMe
import Derived.Test.YtmnaggdhkggjhaaGreatDoorM1
import Derived.Test.YtmnaggdhkggjhaaGreatDoorProg
import Derived.KernelRfl
import Derived.Laws.StructEq
import Derived.Test.YtmnaggdhkggjhaaGreatDoorM5
import Derived.Test.YtmnaggdhkggjhaaGreatDoorM4
namespace Go.Proofs.YtmnaggdhkggjhaaGreatDoor.E.Pl
open Go Go.RowKit
set_option linter.unusedSimpArgs false
set_option linter.unusedVariables false

/-- A value: kind, number, text. -/
abbrev ValT := Int × Int × ByteArray × Unit
def valF (p : ValT) : List Value := [.int .i64 p.1, .int .i64 p.2.1, .string p.2.2.1]
abbrev rVal : Rdr ValT := rCons 1 (rI .i64) (rCons 1 (rI .i64) (rCons 1 rS rNil))
abbrev Vals : Rdr (List ValT) := rRow 3 rVal
theorem keeps_Vals : Keeps Vals := keeps_Row (keeps_Cons (keeps_I _) (keeps_Cons (keeps_I _) (keeps_Cons keeps_S keeps_Nil)))
def valOk (p : ValT) : Prop := (Lit.int .i64 p.1).wf = true ∧ (Lit.int .i64 p.2.1).wf = true ∧ p.2.2.1.size ≤ maxLen
theorem val_cells {w : World} {us : List Value} {x : ValT} (h : rVal w us x) : us = valF x ∧ valOk x := by
  obtain ⟨r, rfl, h1, h⟩ := rCons_I h
  obtain ⟨r, rfl, h2, h⟩ := rCons_I h
  obtain ⟨r, rfl, h3, h⟩ := rCons_S h
  have : r = [] := h
  subst this
  exact ⟨rfl, h1, h2, h3⟩
theorem rVal_of {w : World} {x : ValT} (h : valOk x) : rVal w (valF x) x := ⟨⟨rfl, h.1⟩, ⟨rfl, h.2.1⟩, ⟨rfl, h.2.2⟩, rfl⟩
theorem vals_ok {w : World} {v : Value} {l : List ValT} (h : Vals w [v] l) : ∀ p ∈ l, valOk p := by
  intro p hp
  obtain ⟨A, c, he, _, _, h⟩ := h
  obtain ⟨i, hi, rfl⟩ := List.getElem_of_mem hp
  obtain ⟨a, us, _, _, _, hr⟩ := h i l[i] (List.getElem?_eq_getElem hi)
  exact (val_cells hr).2
theorem valF_one : ∀ x : ValT, ∀ u ∈ valF x, u.oneCell' = true := by
  intro x u hu
  simp only [valF, List.mem_cons, List.not_mem_nil, or_false] at hu
  rcases hu with rfl | rfl | rfl <;> rfl
theorem und3 : Tryz.prog.underlying 3 = some (.int .i64) := by kernel_rfl
theorem und4 : Tryz.prog.underlying 4 = some .bool := by kernel_rfl
theorem und5 : Tryz.prog.underlying 5 = some (.int .u8) := by kernel_rfl
theorem und9 : Tryz.prog.underlying 9 = some .string := by kernel_rfl
theorem undVs : Tryz.prog.underlying 35 = some (.slice 91) := by kernel_rfl
theorem undRec : Tryz.prog.underlying 36 = some (.slice 91) := by kernel_rfl
theorem sz3 : (Tryz.prog.info? 3).map (·.size) = some 1 := by kernel_rfl
theorem sz4 : (Tryz.prog.info? 4).map (·.size) = some 1 := by kernel_rfl
theorem szVal : (Tryz.prog.info? 91).map (·.size) = some 3 := by kernel_rfl
theorem one3 : oneB Tryz.prog 3 = true := by kernel_rfl
theorem one4 : oneB Tryz.prog 4 = true := by kernel_rfl
theorem one5 : oneB Tryz.prog 5 = true := by kernel_rfl
theorem one9 : oneB Tryz.prog 9 = true := by kernel_rfl
theorem oneE : oneB Tryz.prog 34 = true := by kernel_rfl
theorem aggVal : aggB Tryz.prog 91 = true := by kernel_rfl
theorem zVal : (Tryz.prog.info? 91).bind (·.zero) = some (.agg (valF (0, 0, ⟨#[]⟩, ())).toArray) := by kernel_rfl
theorem infVal : (Tryz.prog.info? 91).map (fun i => (i.zero, i.size, i.bytes)) = some (some (.agg (valF (0, 0, ⟨#[]⟩, ())).toArray), 3, 32) := by kernel_rfl
theorem inf3 : (Tryz.prog.info? 3).map (fun i => (i.zero, i.size, i.bytes)) = some (some (.int .i64 0), 1, 8) := by kernel_rfl
theorem v0 : fofs Tryz.prog 91 0 = some (0, 1) := by kernel_rfl
theorem v1 : fofs Tryz.prog 91 1 = some (1, 1) := by kernel_rfl
theorem v2 : fofs Tryz.prog 91 2 = some (2, 1) := by kernel_rfl
theorem opens_Val : Opens Tryz.prog 91 rVal := opens_struct Tryz.underlying91 (by kernel_rfl) (opensF_cons rfl (by kernel_rfl) (by decide) (opens_int und3) (opensF_cons rfl (by kernel_rfl) (by decide) (opens_int und3) (opensF_cons rfl (by kernel_rfl) (by decide) (opens_string und9) opensF_nil)))
theorem opens_Vals : Opens Tryz.prog 35 Vals := opens_row undVs (by kernel_rfl) opens_Val
theorem wf_64 {n : Int} (h : (Lit.int .i64 n).wf = true) : -9223372036854775808 ≤ n ∧ n ≤ 9223372036854775807 := by
  simp [Lit.wf, IntKind.min, IntKind.max, IntKind.signed, IntKind.bits] at h
  omega
end Go.Proofs.YtmnaggdhkggjhaaGreatDoor.E.Pl

namespace Go.Proofs.YtmnaggdhkggjhaaGreatDoor.E.Pl
open Go Go.RowKit
set_option linter.unusedSimpArgs false
set_option linter.unusedVariables false

def goodV (v : ValT) : Bool := decide ((v.1 = 0 ∧ v.2.1 = 0 ∧ v.2.2.1.data.toList = []) ∨ (v.1 = 1 ∧ v.2.2.1.data.toList = []) ∨ (v.1 = 2 ∧ v.2.1 = 0 ∧ v.2.2.1.size ≤ 32))
def rowE (l : List ValT) : Int := if 4 < l.length then 4 else if l.all goodV then 0 else 1
def recE (l : List ValT) : Int := if l.length = 0 then 1 else rowE l
theorem goodV_0 {n : Int} {s : ByteArray} : goodV (0, n, s, ()) = decide (n = 0 ∧ s.data.toList = []) := by
  unfold goodV; simp
theorem goodV_1 {n : Int} {s : ByteArray} : goodV (1, n, s, ()) = decide (s.data.toList = []) := by
  unfold goodV; simp
theorem goodV_2 {n : Int} {s : ByteArray} : goodV (2, n, s, ()) = decide (n = 0 ∧ s.size ≤ 32) := by
  unfold goodV; simp
theorem goodV_x {k n : Int} {s : ByteArray} (h0 : k ≠ 0) (h1 : k ≠ 1) (h2 : k ≠ 2) : goodV (k, n, s, ()) = false := by
  unfold goodV; simp [h0, h1, h2]
section
variable {w : World} {g : Nat} {x : ValT}
theorem vc0 (h : Blk w g 91 (valF x).toArray) : w.cell? ⟨g, 0, none⟩ = some (.int .i64 x.1) := h.cell 0
theorem vc1 (h : Blk w g 91 (valF x).toArray) : w.cell? ⟨g, 1, none⟩ = some (.int .i64 x.2.1) := h.cell 1
theorem vc2 (h : Blk w g 91 (valF x).toArray) : w.cell? ⟨g, 2, none⟩ = some (.string x.2.2.1) := h.cell 2
end
def sameV (x y : ValT) : Bool := x.1 == y.1 && (x.2.1 == y.2.1 && (x.2.2.1.toList == y.2.2.1.toList && true))
theorem run_eqV (x y : ValT) (w : World) : (Op.eqFields 9999 (valF x).toArray (valF y).toArray (Tryz.prog.fieldsOf 91).toList).run Tryz.prog w = .ok (sameV x y) w := by
  have e : (Tryz.prog.fieldsOf 91).toList = [(Tryz.prog.fieldsOf 91)[0]!, (Tryz.prog.fieldsOf 91)[1]!, (Tryz.prog.fieldsOf 91)[2]!] := by kernel_rfl
  rw [e]
  have t0 : ((Tryz.prog.fieldsOf 91)[0]!).type = 3 := by kernel_rfl
  have t1 : ((Tryz.prog.fieldsOf 91)[1]!).type = 3 := by kernel_rfl
  have t2 : ((Tryz.prog.fieldsOf 91)[2]!).type = 9 := by kernel_rfl
  have o0 : ((Tryz.prog.fieldsOf 91)[0]!).offset = 0 := by kernel_rfl
  have o1 : ((Tryz.prog.fieldsOf 91)[1]!).offset = 1 := by kernel_rfl
  have o2 : ((Tryz.prog.fieldsOf 91)[2]!).offset = 2 := by kernel_rfl
  refine eqFields_cons (by decide +kernel) (by rw [t0]; exact und3) rfl (u := .int .i64 x.1) (u' := .int .i64 y.1) (by rw [o0]; rfl) (by rw [o0]; rfl) (by rw [t0, run_equalIn_int w 9998 3 .i64 .i64 _ _ und3]) ?_
  refine eqFields_cons (by decide +kernel) (by rw [t1]; exact und3) rfl (u := .int .i64 x.2.1) (u' := .int .i64 y.2.1) (by rw [o1]; rfl) (by rw [o1]; rfl) (by rw [t1, run_equalIn_int w 9998 3 .i64 .i64 _ _ und3]) ?_
  refine eqFields_cons (by decide +kernel) (by rw [t2]; exact und9) rfl (u := .string x.2.2.1) (u' := .string y.2.2.1) (by rw [o2]; rfl) (by rw [o2]; rfl) (by rw [t2, run_equalIn_string w 9998 9 _ _ und9]) ?_
  simp [Op.eqFields]
theorem guardV : Tryz.prog.eqGuardType Tryz.prog.depth 91 = false := by kernel_rfl
theorem fieldsV : Tryz.prog.underlying 91 = some (.struct (Tryz.prog.fieldsOf 91)) := by kernel_rfl
theorem heldV : Tryz.prog.stoodInHeld 91 = false := by kernel_rfl
theorem pr_eqlV {x' y' : Operand} (x y : ValT) : PR Tryz.prog (binS .eql 91 x' y' (.agg (valF x).toArray) (.agg (valF y).toArray)) (.bool (sameV x y)) := by
  intro w
  simp only [binS, Sem.run_bind, run_eqGuard_agg w .eql 91 x' y' (valF x).toArray (valF y).toArray guardV, Result.andThen_ok]
  rw [run_eql_struct, run_equalIn_agg w 9999 91 _ _ fieldsV heldV, run_eqV]
  rfl
theorem sameV_iff (x y : ValT) : sameV x y = true ↔ x = y := by
  obtain ⟨a, b, c, _⟩ := x
  obtain ⟨a', b', c', _⟩ := y
  simp only [sameV, Bool.and_eq_true, beq_iff_eq, and_true, Prod.mk.injEq]
  constructor
  · rintro ⟨h1, h2, h3⟩
    refine ⟨h1, h2, ?_⟩
    rw [ByteArray.toList_eq, ByteArray.toList_eq] at h3
    cases c; cases c'
    simp only [ByteArray.mk.injEq]
    exact Array.toList_inj.1 h3
  · rintro ⟨h1, h2, h3⟩
    exact ⟨h1, h2, by rw [h3]⟩
theorem good_spec (x : ValT) (w : World) : CallP Tryz.prog 62 #[.agg (valF x).toArray] (fun r w' => r = .bool (goodV x) ∧ Below w.heap.size w w') w := by
  obtain ⟨k, n, s, _⟩ := x
  refine ⟨S62.calls _ _ _ ?_⟩
  unfold S62
  refine bxB ?_
  intro g w1 hg hB hb
  have c0 := vc0 hB
  have c1 := vc1 hB
  have c2 := vc2 hB
  (repeat with_reducible first|refine fd v0 (by decide) ?_|refine ld one3 c0 ?_)
  refine bi_eql_c (fun h0 => ?_) (fun h0 => ?_)
  · have h0 : k = 0 := h0
    subst h0
    (repeat with_reducible first|refine z_b ?_)
    refine ldA aggVal hB (by exact szVal) ?_
    refine bd (cells := (valF (0, 0, ⟨#[]⟩, ())).toArray) (by kernel_rfl) ?_
    refine ofPR (pr_eqlV _ _) ?_
    refine ⟨?_, hb⟩
    rw [goodV_0]
    congr 1
    rw [Bool.eq_iff_iff, sameV_iff, decide_eq_true_iff]
    simp only [Prod.mk.injEq, true_and, and_true]
    constructor
    · rintro ⟨rfl, rfl⟩; exact ⟨rfl, rfl⟩
    · rintro ⟨rfl, h⟩
      refine ⟨rfl, ?_⟩
      cases s
      simp only [ByteArray.mk.injEq]
      exact Array.toList_inj.1 h
  (repeat with_reducible first|refine z_c ?_)
  refine bi_eql_c (fun h1 => ?_) (fun h1 => ?_)
  · have h1 : k = 1 := h1
    subst h1
    (repeat with_reducible first|refine fd v2 (by decide) ?_|refine ld one9 c2 ?_|refine z_b ?_)
    refine bi_seql ?_
    exact ⟨by rw [goodV_1], hb⟩
  (repeat with_reducible first|refine z_c ?_)
  refine bi_eql_c (fun h2 => ?_) (fun h2 => ?_)
  · have h2 : k = 2 := h2
    subst h2
    (repeat with_reducible first|refine fd v1 (by decide) ?_|refine ld one3 c1 ?_|refine z_b ?_)
    refine bi_eql_c (fun h3 => ?_) (fun h3 => ?_)
    · (repeat with_reducible first|refine fd v2 (by decide) ?_|refine ld one9 c2 ?_|refine z_d ?_)
      refine lns und9 ?_
      (repeat with_reducible first|refine z_d ?_)
      refine bi_leq ?_
      (repeat with_reducible first|refine z_k ?_)
      refine ⟨?_, hb⟩
      rw [goodV_2]
      congr 1
      rw [decide_eq_decide]
      have h3 : n = 0 := h3
      simp only [h3, true_and]
      omega
    · (repeat with_reducible first|refine z_e ?_|refine z_l ?_)
      refine ⟨?_, hb⟩
      rw [goodV_2, decide_eq_false fun h => h3 h.1]
  · (repeat with_reducible first|refine z_c ?_)
    exact ⟨by rw [goodV_x h0 h1 h2], hb⟩
theorem refGood_spec (x : ValT) (w : World) : CallP Tryz.prog 64 #[.agg (valF x).toArray] (fun r w' => r = .bool (goodV x) ∧ Below w.heap.size w w') w := by
  obtain ⟨k, n, s, _⟩ := x
  refine ⟨S64.calls _ _ _ ?_⟩
  unfold S64
  refine bxB ?_
  intro g w1 hg hB hb
  have c0 := vc0 hB
  have c1 := vc1 hB
  have c2 := vc2 hB
  (repeat with_reducible first|refine fd v0 (by decide) ?_|refine ld one3 c0 ?_)
  by_cases h0 : k = 0
  · subst h0
    (repeat with_reducible first|refine fd v1 (by decide) ?_|refine ld one3 c1 ?_|refine z_d ?_|refine z_q (by omega) ?_)
    refine bi_eql_c (fun h3 => ?_) (fun h3 => ?_)
    · have h3 : n = 0 := h3
      subst h3
      (repeat with_reducible first|refine fd v2 (by decide) ?_|refine ld one9 c2 ?_|refine z_d ?_|refine z_k ?_)
      refine bi_seql_c (fun h4 => ?_) (fun h4 => ?_)
      · (repeat with_reducible first|refine z_f ?_|refine z_g ?_|refine z_k ?_)
        exact ⟨by rw [goodV_0, decide_eq_true ⟨rfl, h4⟩], hb⟩
      · (repeat with_reducible first|refine fd v0 (by decide) ?_|refine ld one3 c0 ?_|refine z_d ?_|refine z_e ?_|refine z_k ?_|refine z_l ?_|refine z_r (by omega) ?_)
        exact ⟨by rw [goodV_0, decide_eq_false fun h => h4 h.2], hb⟩
    · (repeat with_reducible first|refine fd v0 (by decide) ?_|refine ld one3 c0 ?_|refine z_d ?_|refine z_e ?_|refine z_k ?_|refine z_l ?_|refine z_r (by omega) ?_)
      exact ⟨by rw [goodV_0, decide_eq_false fun h => h3 h.1], hb⟩
  by_cases h1 : k = 1
  · subst h1
    (repeat with_reducible first|refine fd v0 (by decide) ?_|refine ld one3 c0 ?_|refine fd v2 (by decide) ?_|refine ld one9 c2 ?_|refine z_d ?_|refine z_e ?_|refine z_l ?_|refine z_q (by omega) ?_|refine z_r (by omega) ?_)
    refine bi_seql_c (fun h4 => ?_) (fun h4 => ?_)
    · (repeat with_reducible first|refine z_d ?_|refine z_f ?_|refine z_g ?_|refine z_k ?_|refine z_l ?_)
      exact ⟨by rw [goodV_1, decide_eq_true h4], hb⟩
    · (repeat with_reducible first|refine fd v0 (by decide) ?_|refine ld one3 c0 ?_|refine z_d ?_|refine z_e ?_|refine z_k ?_|refine z_l ?_|refine z_r (by omega) ?_)
      exact ⟨by rw [goodV_1, decide_eq_false h4], hb⟩
  by_cases h2 : k = 2
  · subst h2
    (repeat with_reducible first|refine fd v0 (by decide) ?_|refine ld one3 c0 ?_|refine fd v1 (by decide) ?_|refine ld one3 c1 ?_|refine z_d ?_|refine z_e ?_|refine z_l ?_|refine z_q (by omega) ?_|refine z_r (by omega) ?_)
    refine bi_eql_c (fun h3 => ?_) (fun h3 => ?_)
    · have h3 : n = 0 := h3
      (repeat with_reducible first|refine fd v2 (by decide) ?_|refine ld one9 c2 ?_|refine z_d ?_|refine z_k ?_)
      refine lns und9 ?_
      (repeat with_reducible first|refine z_d ?_)
      refine bi_leq ?_
      (repeat with_reducible first|refine z_d ?_|refine z_k ?_|refine z_l ?_)
      refine ⟨?_, hb⟩
      rw [goodV_2]
      congr 1
      rw [decide_eq_decide]
      simp only [h3, true_and]
      omega
    · (repeat with_reducible first|refine z_d ?_|refine z_e ?_|refine z_k ?_|refine z_l ?_)
      exact ⟨by rw [goodV_2, decide_eq_false fun h => h3 h.1], hb⟩
  (repeat with_reducible first|refine fd v0 (by decide) ?_|refine ld one3 c0 ?_|refine z_d ?_|refine z_e ?_|refine z_l ?_|refine z_r (by omega) ?_)
  exact ⟨by rw [goodV_x h0 h1 h2], hb⟩
end Go.Proofs.YtmnaggdhkggjhaaGreatDoor.E.Pl
namespace Go.Proofs.YtmnaggdhkggjhaaGreatDoor.E.Pl
open Go Go.RowKit
set_option linter.unusedSimpArgs false
set_option linter.unusedVariables false

/-- A predicate that the program tells of values. -/
def Tells (f : FuncId) (p : ValT → Bool) : Prop := callable Tryz.prog f = true ∧ ∀ (x : ValT) (w : World), CallP Tryz.prog f #[.agg (valF x).toArray] (fun r w' => r = .bool (p x) ∧ Below w.heap.size w w') w
theorem bad_tells : Tells 42 (fun x => !goodV x) := by
  refine ⟨by kernel_rfl, fun x w => ⟨S42.calls _ _ _ ?_⟩⟩
  unfold S42
  refine bxB ?_
  intro g w1 hg hB hb
  refine ldA aggVal hB (by exact szVal) ?_
  refine (good_spec x w1).mono ?_
  rintro _ w2 ⟨rfl, hb2⟩
  refine bi_not ?_
  exact ⟨rfl, below_then hb hb2⟩
theorem bad1_tells : Tells 85 (fun x => !goodV x) := by
  refine ⟨by kernel_rfl, fun x w => ⟨S85.calls _ _ _ ?_⟩⟩
  unfold S85
  refine bxB ?_
  intro g w1 hg hB hb
  refine ldA aggVal hB (by exact szVal) ?_
  refine (good_spec x w1).mono ?_
  rintro _ w2 ⟨rfl, hb2⟩
  refine bi_not ?_
  exact ⟨rfl, below_then hb hb2⟩
theorem any_take {α : Type} (p : α → Bool) (l : List α) (k : Nat) (hk : k < l.length) : (l.take (k + 1)).any p = ((l.take k).any p || p l[k]) := by
  rw [List.take_succ_eq_append_getElem hk, List.any_append]; simp
theorem indexR {f : FuncId} {p : ValT → Bool} (hf : Tells f p) (v : Value) (l : List ValT) (w : World) (hv : Vals w [v] l) :
    CallP Tryz.prog 61 #[v, .func (.func f) #[] #[]] (fun r w' => (∃ i : Int, r = .int .i64 i ∧ (0 ≤ i ↔ l.any p = true)) ∧ Below w.heap.size w w') w := by
  obtain ⟨A, c, rfl, hc, hm⟩ := hv.slice
  refine ⟨S61.calls _ _ _ _ ?_⟩
  unfold S61
  refine ln undRec ?_
  refine LoopP.inv1 (fun iv w' => ∃ k : Nat, k ≤ l.length ∧ iv = .int .i64 k ∧ (l.take k).any p = false ∧ Below w.heap.size w w') (fun iv _ => l.length - (intOf iv).toNat) ⟨0, by omega, rfl, by simp, Below.refl _ _⟩ ?_
  rintro _ w1 ⟨k, hk, rfl, hany, hb1⟩ J hJ
  dsimp only [List.headD_cons, List.tail_cons]
  refine bi_lss_c (fun h => ?_) (fun h => ?_)
  · have hk' : k < l.length := by omega
    obtain ⟨a, us, rfl, hus, hcell, hrd⟩ := rRow.at (keeps_Vals _ _ _ _ hb1 hv) k hk'
    obtain ⟨rfl, _⟩ := val_cells hrd
    (repeat with_reducible first|refine z_b ?_)
    refine ixN undRec szVal k hk' ?_
    refine ldR aggVal hcell (by rw [szVal]; rfl) ?_
    refine cvl hf.1 ?_
    refine (hf.2 l[k] w1).mono ?_
    rintro _ w2 ⟨rfl, hb2⟩
    have e := any_take p l k hk'
    cases hp : p l[k] with
    | true =>
      (repeat with_reducible first|refine z_b ?_)
      refine ⟨⟨k, rfl, ?_⟩, below_then hb1 hb2⟩
      have : l.any p = true := List.any_eq_true.2 ⟨l[k], List.getElem_mem hk', hp⟩
      rw [this]; simp
    | false =>
      (repeat with_reducible first|refine z_c ?_|refine z_o (by omega) ?_)
      refine hJ _ _ ⟨k + 1, by omega, by simp, by rw [e, hany, hp]; rfl, below_then hb1 hb2⟩ (by simp [intOf]; omega)
  · have hkl : k = l.length := by omega
    subst hkl
    rw [List.take_length] at hany
    (repeat with_reducible first|refine z_c ?_)
    exact ⟨⟨-1, rfl, by rw [hany]; simp⟩, hb1⟩
theorem containsR {f : FuncId} {p : ValT → Bool} (hf : Tells f p) (v : Value) (l : List ValT) (w : World) (hv : Vals w [v] l) :
    CallP Tryz.prog 41 #[v, .func (.func f) #[] #[]] (fun r w' => r = .bool (l.any p) ∧ Below w.heap.size w w') w := by
  refine ⟨S41.calls _ _ _ _ ?_⟩
  unfold S41
  refine (indexR hf v l w hv).mono ?_
  rintro _ w1 ⟨⟨i, rfl, hi⟩, hb⟩
  refine bi_geq ?_
  refine ⟨?_, hb⟩
  congr 1
  cases h : l.any p with
  | true => rw [h] at hi; exact decide_eq_true (hi.2 rfl)
  | false => rw [h] at hi; exact decide_eq_false fun e => by simpa using hi.1 e
theorem indexV {f : FuncId} {p : ValT → Bool} (hf : Tells f p) (v : Value) (l : List ValT) (w : World) (hv : Vals w [v] l) :
    CallP Tryz.prog 94 #[v, .func (.func f) #[] #[]] (fun r w' => (∃ i : Int, r = .int .i64 i ∧ (0 ≤ i ↔ l.any p = true)) ∧ Below w.heap.size w w') w := by
  obtain ⟨A, c, rfl, hc, hm⟩ := hv.slice
  refine ⟨S94.calls _ _ _ _ ?_⟩
  unfold S94
  refine ln undVs ?_
  refine LoopP.inv1 (fun iv w' => ∃ k : Nat, k ≤ l.length ∧ iv = .int .i64 k ∧ (l.take k).any p = false ∧ Below w.heap.size w w') (fun iv _ => l.length - (intOf iv).toNat) ⟨0, by omega, rfl, by simp, Below.refl _ _⟩ ?_
  rintro _ w1 ⟨k, hk, rfl, hany, hb1⟩ J hJ
  dsimp only [List.headD_cons, List.tail_cons]
  refine bi_lss_c (fun h => ?_) (fun h => ?_)
  · have hk' : k < l.length := by omega
    obtain ⟨a, us, rfl, hus, hcell, hrd⟩ := rRow.at (keeps_Vals _ _ _ _ hb1 hv) k hk'
    obtain ⟨rfl, _⟩ := val_cells hrd
    (repeat with_reducible first|refine z_b ?_)
    refine ixN undVs szVal k hk' ?_
    refine ldR aggVal hcell (by rw [szVal]; rfl) ?_
    refine cvl hf.1 ?_
    refine (hf.2 l[k] w1).mono ?_
    rintro _ w2 ⟨rfl, hb2⟩
    have e := any_take p l k hk'
    cases hp : p l[k] with
    | true =>
      (repeat with_reducible first|refine z_b ?_)
      refine ⟨⟨k, rfl, ?_⟩, below_then hb1 hb2⟩
      have : l.any p = true := List.any_eq_true.2 ⟨l[k], List.getElem_mem hk', hp⟩
      rw [this]; simp
    | false =>
      (repeat with_reducible first|refine z_c ?_|refine z_o (by omega) ?_)
      refine hJ _ _ ⟨k + 1, by omega, by simp, by rw [e, hany, hp]; rfl, below_then hb1 hb2⟩ (by simp [intOf]; omega)
  · have hkl : k = l.length := by omega
    subst hkl
    rw [List.take_length] at hany
    (repeat with_reducible first|refine z_c ?_)
    exact ⟨⟨-1, rfl, by rw [hany]; simp⟩, hb1⟩
theorem containsV {f : FuncId} {p : ValT → Bool} (hf : Tells f p) (v : Value) (l : List ValT) (w : World) (hv : Vals w [v] l) :
    CallP Tryz.prog 84 #[v, .func (.func f) #[] #[]] (fun r w' => r = .bool (l.any p) ∧ Below w.heap.size w w') w := by
  refine ⟨S84.calls _ _ _ _ ?_⟩
  unfold S84
  refine (indexV hf v l w hv).mono ?_
  rintro _ w1 ⟨⟨i, rfl, hi⟩, hb⟩
  refine bi_geq ?_
  refine ⟨?_, hb⟩
  congr 1
  cases h : l.any p with
  | true => rw [h] at hi; exact decide_eq_true (hi.2 rfl)
  | false => rw [h] at hi; exact decide_eq_false fun e => by simpa using hi.1 e
theorem any_bad (l : List ValT) : l.any (fun x => !goodV x) = !(l.all goodV) := by
  induction l with
  | nil => rfl
  | cons x r ih => rw [List.any_cons, List.all_cons, ih, Bool.not_and]
theorem row_spec (v : Value) (l : List ValT) (w : World) (hv : Vals w [v] l) : CallP Tryz.prog 70 #[v] (fun r w' => r = .int .i64 (rowE l) ∧ Below w.heap.size w w') w := by
  obtain ⟨A, c, rfl, hc, hm⟩ := hv.slice
  refine ⟨S70.calls _ _ _ ?_⟩
  unfold S70
  refine ln undVs ?_
  refine bi_gtr_c (fun h => ?_) (fun h => ?_)
  · (repeat with_reducible first|refine z_b ?_)
    exact ⟨by unfold rowE; rw [if_pos (by omega)], Below.refl _ _⟩
  · (repeat with_reducible first|refine z_c ?_)
    refine (containsV bad1_tells _ l w hv).mono ?_
    rintro _ w1 ⟨rfl, hb⟩
    rw [any_bad]
    have e : rowE l = if l.all goodV then 0 else 1 := by unfold rowE; rw [if_neg (by omega)]
    rw [e]
    cases l.all goodV with
    | true =>
      refine CondP.no_ rfl ?_
      exact ⟨rfl, hb⟩
    | false =>
      refine CondP.yes rfl ?_
      exact ⟨rfl, hb⟩
theorem refRow_spec (v : Value) (l : List ValT) (w : World) (hv : Vals w [v] l) : CallP Tryz.prog 49 #[v] (fun r w' => r = .int .i64 (rowE l) ∧ Below w.heap.size w w') w := by
  obtain ⟨A, c, rfl, hc, hm⟩ := hv.slice
  refine ⟨S49.calls _ _ _ ?_⟩
  unfold S49
  refine ln undVs ?_
  refine bi_gtr_c (fun h => ?_) (fun h => ?_)
  · (repeat with_reducible first|refine z_b ?_)
    exact ⟨by unfold rowE; rw [if_pos (by omega)], Below.refl _ _⟩
  have e : rowE l = if l.all goodV then 0 else 1 := by unfold rowE; rw [if_neg (by omega)]
  rw [e]
  (repeat with_reducible first|refine z_c ?_)
  refine LoopP.inv1 (fun iv w' => ∃ k : Nat, k ≤ l.length ∧ iv = .int .i64 k ∧ (l.take k).all goodV = true ∧ Below w.heap.size w w') (fun iv _ => l.length - (intOf iv).toNat) ⟨0, by omega, rfl, by simp, Below.refl _ _⟩ ?_
  rintro _ w1 ⟨k, hk, rfl, hall, hb1⟩ J hJ
  dsimp only [List.headD_cons, List.tail_cons]
  refine ln undVs ?_
  refine bi_lss_c (fun h => ?_) (fun h => ?_)
  · have hk' : k < l.length := by omega
    obtain ⟨a, us, rfl, hus, hcell, hrd⟩ := rRow.at (keeps_Vals _ _ _ _ hb1 hv) k hk'
    obtain ⟨rfl, _⟩ := val_cells hrd
    (repeat with_reducible first|refine z_b ?_)
    refine ixN undVs szVal k hk' ?_
    refine ldR aggVal hcell (by rw [szVal]; rfl) ?_
    refine (refGood_spec l[k] w1).mono ?_
    rintro _ w2 ⟨rfl, hb2⟩
    cases hp : goodV l[k] with
    | true =>
      (repeat with_reducible first|refine z_c ?_|refine z_o (by omega) ?_|refine z_E ?_)
      refine hJ _ _ ⟨k + 1, by omega, by simp, ?_, below_then hb1 hb2⟩ (by simp [intOf]; omega)
      rw [List.take_succ_eq_append_getElem hk', List.all_append, hall]
      simp [hp]
    | false =>
      (repeat with_reducible first|refine z_b ?_|refine z_F ?_)
      refine ⟨?_, below_then hb1 hb2⟩
      have : l.all goodV = false := List.all_eq_false.2 ⟨l[k], List.getElem_mem hk', by rw [hp]; simp⟩
      rw [this]; rfl
  · have hkl : k = l.length := by omega
    subst hkl
    rw [List.take_length] at hall
    (repeat with_reducible first|refine z_c ?_)
    exact ⟨by rw [hall]; rfl, hb1⟩
theorem when_spec (b : Bool) (e : Int) (w : World) : CallP Tryz.prog 40 #[.bool b, .int .i64 e] (fun r w' => r = .int .i64 (if b then e else 0) ∧ w' = w) w := by
  refine ⟨S40.calls _ _ _ _ ?_⟩
  unfold S40
  cases b with
  | true => exact CondP.yes rfl ⟨rfl, rfl⟩
  | false => exact CondP.no_ rfl ⟨rfl, rfl⟩
def firstE : List Int → Int
  | [] => 0
  | e :: r => if e ≠ 0 then e else firstE r
theorem firstE_drop (l : List Int) (k : Nat) (hk : k < l.length) : firstE (l.drop k) = if l[k] ≠ 0 then l[k] else firstE (l.drop (k + 1)) := by
  rw [List.drop_eq_getElem_cons hk, firstE]
theorem undEs : Tryz.prog.underlying 112 = some (.slice 34) := by kernel_rfl
theorem szE : (Tryz.prog.info? 34).map (·.size) = some 1 := by kernel_rfl
theorem first_spec (v : Value) (l : List Int) (w : World) (hv : Rd w v (l.map (Value.int .i64))) : CallP Tryz.prog 39 #[v] (fun r w' => r = .int .i64 (firstE l) ∧ w' = w) w := by
  obtain ⟨A, c, rfl, hc, hm⟩ := hv.slice
  rw [List.length_map] at hv hc ⊢
  refine ⟨S39.calls _ _ _ ?_⟩
  unfold S39
  refine ln undEs ?_
  refine LoopP.inv1 (fun iv w' => ∃ k : Nat, k ≤ l.length ∧ iv = .int .i64 k ∧ w' = w ∧ firstE l = firstE (l.drop k)) (fun iv _ => l.length - (intOf iv).toNat) ⟨0, by omega, rfl, rfl, rfl⟩ ?_
  rintro _ w ⟨k, hk, rfl, rfl, hf⟩ J hJ
  dsimp only [List.headD_cons, List.tail_cons]
  refine bi_lss_c (fun h => ?_) (fun h => ?_)
  · have hk' : k < l.length := by omega
    obtain ⟨a, rfl, hca⟩ := Rd.atI hv k hk'
    rw [firstE_drop l k hk'] at hf
    (repeat with_reducible first|refine ix1 undEs szE hk' ?_|refine ld oneE hca ?_|refine z_b ?_)
    refine bi_neq_c (fun h => ?_) (fun h => ?_)
    · (repeat with_reducible first|refine z_b ?_)
      exact ⟨by rw [hf, if_pos h], rfl⟩
    · (repeat with_reducible first|refine z_c ?_|refine z_o (by omega) ?_)
      exact hJ _ _ ⟨k + 1, by omega, by simp, rfl, by rw [hf, if_neg (by omega)]⟩ (by simp [intOf]; omega)
  · have hkl : k = l.length := by omega
    subst hkl
    rw [List.drop_length] at hf
    (repeat with_reducible first|refine z_c ?_)
    exact ⟨by rw [hf]; rfl, rfl⟩
theorem check_spec (v : Value) (l : List ValT) (w : World) (hv : Vals w [v] l) : CallP Tryz.prog 17 #[v] (fun r w' => r = .int .i64 (recE l) ∧ Below w.heap.size w w') w := by
  obtain ⟨A, c, rfl, hc, hm⟩ := hv.slice
  refine ⟨S17.calls _ _ _ ?_⟩
  unfold S17
  refine ln undRec ?_
  refine bi_eql ?_
  refine (when_spec _ _ _).mono ?_
  rintro _ w ⟨rfl, rfl⟩
  refine ln undRec ?_
  refine bi_gtr ?_
  refine (when_spec _ _ _).mono ?_
  rintro _ w ⟨rfl, rfl⟩
  refine (containsR bad_tells _ l w hv).mono ?_
  rintro _ w1 ⟨rfl, hb⟩
  refine (when_spec _ _ _).mono ?_
  rintro _ w1 ⟨rfl, rfl⟩
  rw [any_bad]
  refine lift (v := .slice (some ⟨w1.heap.size, 0, none⟩) 3 3) (w' := w1.alloc (.cells #[.int .i64 (if decide ((l.length : Int) = 0) then 1 else 0), .int .i64 (if decide ((4 : Int) < l.length) then 4 else 0), .int .i64 (if !(l.all goodV) then 1 else 0)] 34)) (by kernel_rfl) ?_
  have hal := (Below.refl w1.heap.size w1).alloc (Nat.le_refl _) (.cells #[.int .i64 (if decide ((l.length : Int) = 0) then 1 else 0), .int .i64 (if decide ((4 : Int) < l.length) then 4 else 0), .int .i64 (if !(l.all goodV) then 1 else 0)] 34)
  refine (first_spec _ [if decide ((l.length : Int) = 0) then 1 else 0, if decide ((4 : Int) < l.length) then 4 else 0, if !(l.all goodV) then 1 else 0] _ (Own.new w1 34 [.int .i64 (if decide ((l.length : Int) = 0) then 1 else 0), .int .i64 (if decide ((4 : Int) < l.length) then 4 else 0), .int .i64 (if !(l.all goodV) then 1 else 0)] (by simp)).rd).mono ?_
  rintro _ w2 ⟨rfl, rfl⟩
  refine ⟨?_, below_then hb hal⟩
  congr 1
  unfold recE rowE
  by_cases h0 : l.length = 0
  · rw [if_pos h0, decide_eq_true (by omega)]; rfl
  · rw [if_neg h0, decide_eq_false (by omega)]
    by_cases h4 : 4 < l.length
    · rw [if_pos h4, decide_eq_true (by omega)]; rfl
    · rw [if_neg h4, decide_eq_false (by omega)]
      cases l.all goodV <;> rfl
theorem refCheck_spec (v : Value) (l : List ValT) (w : World) (hv : Vals w [v] l) : CallP Tryz.prog 22 #[v] (fun r w' => r = .int .i64 (recE l) ∧ Below w.heap.size w w') w := by
  obtain ⟨A, c, rfl, hc, hm⟩ := hv.slice
  refine ⟨S22.calls _ _ _ ?_⟩
  unfold S22
  refine ln undVs ?_
  refine bi_eql_c (fun h => ?_) (fun h => ?_)
  · (repeat with_reducible first|refine z_b ?_)
    exact ⟨by unfold recE; rw [if_pos (by omega)], Below.refl _ _⟩
  · (repeat with_reducible first|refine z_c ?_)
    refine (refRow_spec _ l w hv).mono ?_
    rintro _ w1 ⟨rfl, hb⟩
    exact ⟨by unfold recE; rw [if_neg (by omega)], hb⟩
end Go.Proofs.YtmnaggdhkggjhaaGreatDoor.E.Pl
