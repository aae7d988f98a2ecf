/- Replies: their cells; records copied, checked, compared. -/
import Derived.Test.YtmnaggdhkggjhaaE23
import Derived.Test.YtmnaggdhkggjhaaShOnce
import Derived.Laws.StructEq
namespace Go.Proofs.Ytmnaggdhkggjhaa.E
open Go Go.RowKit
set_option linter.unusedSimpArgs false
set_option linter.unusedVariables false

abbrev ValT := Int × Int × ByteArray × Unit
def valF (p : ValT) : List Value := [.int .i64 p.1, .int .i64 p.2.1, .string p.2.2.1]
abbrev rVal : Rdr ValT := rCons 1 (rI .i64) (rCons 1 (rI .i64) (rCons 1 rS rNil))
abbrev Vals : Rdr (List ValT) := rRow 3 rVal
abbrev RowT := ByteArray × List ValT × Unit
abbrev rRowT : Rdr RowT := rCons 1 rS (rCons 1 Vals rNil)
abbrev RowsR : Rdr (List RowT) := rRow 2 rRowT
theorem keeps_Vals : Keeps Vals := keeps_Row (keeps_Cons (keeps_I _) (keeps_Cons (keeps_I _) (keeps_Cons keeps_S keeps_Nil)))
theorem keeps_RowsR : Keeps RowsR := keeps_Row (keeps_Cons keeps_S (keeps_Cons keeps_Vals keeps_Nil))
def valOk (p : ValT) : Prop := (Lit.int .i64 p.1).wf = true ∧ (Lit.int .i64 p.2.1).wf = true ∧ p.2.2.1.size ≤ maxLen
theorem val_cells {w : World} {us : List Value} {x : ValT} (h : rVal w us x) : us = valF x ∧ valOk x := by
  obtain ⟨r, rfl, h1, h⟩ := rCons_I h
  obtain ⟨r, rfl, h2, h⟩ := rCons_I h
  obtain ⟨r, rfl, h3, h⟩ := rCons_S h
  have : r = [] := h
  subst this
  exact ⟨rfl, h1, h2, h3⟩
theorem rVal_of {w : World} {x : ValT} (h : valOk x) : rVal w (valF x) x := ⟨⟨rfl, h.1⟩, ⟨rfl, h.2.1⟩, ⟨rfl, h.2.2⟩, rfl⟩
theorem vals_ok {w : World} {v : Value} {l : List ValT} (h : Vals w [v] l) : ∀ p ∈ l, valOk p := by
  intro p hp
  obtain ⟨A, c, he, _, _, h⟩ := h
  obtain ⟨i, hi, rfl⟩ := List.getElem_of_mem hp
  obtain ⟨a, us, _, _, _, hr⟩ := h i l[i] (List.getElem?_eq_getElem hi)
  exact (val_cells hr).2
theorem valF_one : ∀ x : ValT, ∀ u ∈ valF x, u.oneCell' = true := by
  intro x u hu
  simp only [valF, List.mem_cons, List.not_mem_nil, or_false] at hu
  rcases hu with rfl | rfl | rfl <;> rfl
/-- A reply, its rows apart. -/
structure Rep where
  code : Int
  there : Bool
  id : Int
def Rep.cells (R : Rep) (p q : Value) : Array Value := #[.int .i64 R.code, .bool R.there, p, q, .int .i64 R.id]
def zeroRep : Rep := ⟨0, false, 0⟩
theorem und3 : Try.prog.underlying 3 = some (.int .i64) := by kernel_rfl
theorem und4 : Try.prog.underlying 4 = some .bool := by kernel_rfl
theorem und9 : Try.prog.underlying 9 = some .string := by kernel_rfl
theorem und22 : Try.prog.underlying 22 = some (.int .i64) := by kernel_rfl
theorem und23 : Try.prog.underlying 23 = some (.slice 36) := by kernel_rfl
theorem und24 : Try.prog.underlying 24 = some (.slice 36) := by kernel_rfl
theorem und25 : Try.prog.underlying 25 = some (.slice 94) := by kernel_rfl
theorem und51 : Try.prog.underlying 51 = some (.slice 3) := by kernel_rfl
theorem und97 : Try.prog.underlying 97 = some (.slice 22) := by kernel_rfl
theorem sz3 : (Try.prog.info? 3).map (·.size) = some 1 := by kernel_rfl
theorem sz22 : (Try.prog.info? 22).map (·.size) = some 1 := by kernel_rfl
theorem sz24 : (Try.prog.info? 24).map (·.size) = some 1 := by kernel_rfl
theorem sz25 : (Try.prog.info? 25).map (·.size) = some 1 := by kernel_rfl
theorem sz27 : (Try.prog.info? 27).map (·.size) = some 5 := by kernel_rfl
theorem sz36 : (Try.prog.info? 36).map (·.size) = some 3 := by kernel_rfl
theorem sz94 : (Try.prog.info? 94).map (·.size) = some 2 := by kernel_rfl
theorem agg27 : aggB Try.prog 27 = true := by kernel_rfl
theorem agg36 : aggB Try.prog 36 = true := by kernel_rfl
theorem one3 : oneB Try.prog 3 = true := by kernel_rfl
theorem one4 : oneB Try.prog 4 = true := by kernel_rfl
theorem one9 : oneB Try.prog 9 = true := by kernel_rfl
theorem one22 : oneB Try.prog 22 = true := by kernel_rfl
theorem one24 : oneB Try.prog 24 = true := by kernel_rfl
theorem one25 : oneB Try.prog 25 = true := by kernel_rfl
theorem z27 : (Try.prog.info? 27).bind (·.zero) = some (.agg (zeroRep.cells (.slice none 0 0) (.slice none 0 0))) := by kernel_rfl
theorem inf36 : (Try.prog.info? 36).map (fun i => (i.zero, i.size, i.bytes)) = some (some (.agg #[.int .i64 0, .int .i64 0, .string ⟨#[]⟩]), 3, 32) := by kernel_rfl
theorem r0 : fofs Try.prog 27 0 = some (0, 1) := by kernel_rfl
theorem r1 : fofs Try.prog 27 1 = some (1, 1) := by kernel_rfl
theorem r2 : fofs Try.prog 27 2 = some (2, 1) := by kernel_rfl
theorem r3 : fofs Try.prog 27 3 = some (3, 1) := by kernel_rfl
theorem r4 : fofs Try.prog 27 4 = some (4, 1) := by kernel_rfl
theorem v0 : fofs Try.prog 36 0 = some (0, 1) := by kernel_rfl
theorem v1 : fofs Try.prog 36 1 = some (1, 1) := by kernel_rfl
theorem v2 : fofs Try.prog 36 2 = some (2, 1) := by kernel_rfl
theorem cellsR_one (R : Rep) (p q : Value) (hp : p.oneCell' = true) (hq : q.oneCell' = true) : (R.cells p q).all (·.oneCell') = true := by
  rw [← Array.all_toList]
  simp only [Rep.cells, List.all_cons, hp, hq]
  rfl
theorem setR2 (R : Rep) (p q u : Value) : (R.cells p q).setIfInBounds 2 u = R.cells u q := rfl
theorem setR3 (R : Rep) (p q u : Value) : (R.cells p q).setIfInBounds 3 u = R.cells p u := rfl
theorem newRep {K : Value → World → Prop} {w : World} {R : Rep} {p q : Value} (hp : p.oneCell' = true) (hq : q.oneCell' = true)
    (k : ∀ w', Blk w' w.heap.size 27 (R.cells p q) → Below w.heap.size w w' → K (.pointer (some ⟨w.heap.size, 0, none⟩)) w') :
    LiftP Try.prog (Instr.alloc 27 true (.tuple #[])) (fun v w => LiftU Try.prog (Instr.storeAt 27 v (.agg (R.cells p q))) (fun _ w => K v w) w) w := by
  refine al z27 ?_
  have hR : Blk (w.alloc (.cells (Value.agg (zeroRep.cells (.slice none 0 0) (.slice none 0 0))).cells 27)) w.heap.size 27 (zeroRep.cells (.slice none 0 0) (.slice none 0 0)) := Blk.new w 27 _
  have ha := (Below.refl w.heap.size w).alloc (Nat.le_refl _) (.cells (Value.agg (zeroRep.cells (.slice none 0 0) (.slice none 0 0))).cells 27)
  refine stA hR (by exact sz27) (by rfl) (cellsR_one _ _ _ hp hq) ?_
  exact k _ (hR.row (R.cells p q)) (below_setRow ha (Nat.le_refl _) _)
theorem within_spec (n m : Int) (w : World) : CallP Try.prog 24 #[.int .i64 n, .int .i64 m] (fun r w' => r = .bool (decide (m ≤ n ∧ n ≤ 1099511627776)) ∧ w = w') w := by
  refine ⟨S24.calls _ _ _ _ ?_⟩
  unfold S24
  refine bi_geq_c (fun h => ?_) (fun h => ?_)
  · (repeat (first | (with_reducible refine nck ?_) | (with_reducible refine cdT ?_) | (with_reducible refine cdF ?_) | (with_reducible refine gdY ?_) | (with_reducible refine gdFT ?_) | (with_reducible refine gdTF ?_) | (with_reducible refine gdU ?_) | (with_reducible refine gaY ?_) | (with_reducible refine gaFT ?_) | (with_reducible refine gaTF ?_) | (with_reducible refine pickT ?_) | (with_reducible refine pickF ?_) | (with_reducible refine bi_lss_t (by omega) ?_) | (with_reducible refine bi_lss_f (by omega) ?_) | (with_reducible refine bi_add64 (by omega) ?_) | (with_reducible refine bi_sub64 (by omega) ?_) | (with_reducible refine bi_eql_t (by omega) ?_) | (with_reducible refine bi_eql_f (by omega) ?_) | (with_reducible refine bi_neq_t (by omega) ?_) | (with_reducible refine bi_neq_f (by omega) ?_) | (with_reducible refine bi_gtr_t (by omega) ?_) | (with_reducible refine bi_gtr_f (by omega) ?_) | (with_reducible refine bi_leq_t (by omega) ?_) | (with_reducible refine bi_leq_f (by omega) ?_) | (with_reducible refine bi_geq_t (by omega) ?_) | (with_reducible refine bi_geq_f (by omega) ?_) | (with_reducible refine bi_xt0 ?_) | (with_reducible refine bi_xt1 ?_) | (with_reducible refine bi_xt2 ?_) | (with_reducible refine bi_xt3 ?_) | (with_reducible refine bi_T ?_) | (with_reducible refine bi_F ?_) | (with_reducible refine bi_not ?_) | (with_reducible refine bi_and ?_) | (with_reducible refine bi_or ?_) | (with_reducible refine bi_xor ?_) | (with_reducible refine bi_shr (by omega) (by decide) ?_) | (with_reducible refine bi_shl (by omega) (by decide) ?_) | (with_reducible refine bi_quo64 (by omega) ?_) | (with_reducible refine bi_rem64 (by omega) ?_) | (with_reducible refine bi_mul64 (by omega) ?_) | (with_reducible refine bi_neg ?_) | (with_reducible refine bi_un_xor32 ?_) | (with_reducible refine bi_add ?_) | (with_reducible refine bi_sub ?_) | (with_reducible refine bi_mul ?_) | (with_reducible refine bi_quo (by decide) ?_) | (with_reducible refine bi_rem (by decide) ?_)))
    refine bi_leq_c (fun h2 => ?_) (fun h2 => ?_)
    · (repeat (first | (with_reducible refine nck ?_) | (with_reducible refine cdT ?_) | (with_reducible refine cdF ?_) | (with_reducible refine gdY ?_) | (with_reducible refine gdFT ?_) | (with_reducible refine gdTF ?_) | (with_reducible refine gdU ?_) | (with_reducible refine gaY ?_) | (with_reducible refine gaFT ?_) | (with_reducible refine gaTF ?_) | (with_reducible refine pickT ?_) | (with_reducible refine pickF ?_) | (with_reducible refine bi_lss_t (by omega) ?_) | (with_reducible refine bi_lss_f (by omega) ?_) | (with_reducible refine bi_add64 (by omega) ?_) | (with_reducible refine bi_sub64 (by omega) ?_) | (with_reducible refine bi_eql_t (by omega) ?_) | (with_reducible refine bi_eql_f (by omega) ?_) | (with_reducible refine bi_neq_t (by omega) ?_) | (with_reducible refine bi_neq_f (by omega) ?_) | (with_reducible refine bi_gtr_t (by omega) ?_) | (with_reducible refine bi_gtr_f (by omega) ?_) | (with_reducible refine bi_leq_t (by omega) ?_) | (with_reducible refine bi_leq_f (by omega) ?_) | (with_reducible refine bi_geq_t (by omega) ?_) | (with_reducible refine bi_geq_f (by omega) ?_) | (with_reducible refine bi_xt0 ?_) | (with_reducible refine bi_xt1 ?_) | (with_reducible refine bi_xt2 ?_) | (with_reducible refine bi_xt3 ?_) | (with_reducible refine bi_T ?_) | (with_reducible refine bi_F ?_) | (with_reducible refine bi_not ?_) | (with_reducible refine bi_and ?_) | (with_reducible refine bi_or ?_) | (with_reducible refine bi_xor ?_) | (with_reducible refine bi_shr (by omega) (by decide) ?_) | (with_reducible refine bi_shl (by omega) (by decide) ?_) | (with_reducible refine bi_quo64 (by omega) ?_) | (with_reducible refine bi_rem64 (by omega) ?_) | (with_reducible refine bi_mul64 (by omega) ?_) | (with_reducible refine bi_neg ?_) | (with_reducible refine bi_un_xor32 ?_) | (with_reducible refine bi_add ?_) | (with_reducible refine bi_sub ?_) | (with_reducible refine bi_mul ?_) | (with_reducible refine bi_quo (by decide) ?_) | (with_reducible refine bi_rem (by decide) ?_)))
      exact ⟨by rw [decide_eq_true (by omega)], rfl⟩
    · (repeat (first | (with_reducible refine nck ?_) | (with_reducible refine cdT ?_) | (with_reducible refine cdF ?_) | (with_reducible refine gdY ?_) | (with_reducible refine gdFT ?_) | (with_reducible refine gdTF ?_) | (with_reducible refine gdU ?_) | (with_reducible refine gaY ?_) | (with_reducible refine gaFT ?_) | (with_reducible refine gaTF ?_) | (with_reducible refine pickT ?_) | (with_reducible refine pickF ?_) | (with_reducible refine bi_lss_t (by omega) ?_) | (with_reducible refine bi_lss_f (by omega) ?_) | (with_reducible refine bi_add64 (by omega) ?_) | (with_reducible refine bi_sub64 (by omega) ?_) | (with_reducible refine bi_eql_t (by omega) ?_) | (with_reducible refine bi_eql_f (by omega) ?_) | (with_reducible refine bi_neq_t (by omega) ?_) | (with_reducible refine bi_neq_f (by omega) ?_) | (with_reducible refine bi_gtr_t (by omega) ?_) | (with_reducible refine bi_gtr_f (by omega) ?_) | (with_reducible refine bi_leq_t (by omega) ?_) | (with_reducible refine bi_leq_f (by omega) ?_) | (with_reducible refine bi_geq_t (by omega) ?_) | (with_reducible refine bi_geq_f (by omega) ?_) | (with_reducible refine bi_xt0 ?_) | (with_reducible refine bi_xt1 ?_) | (with_reducible refine bi_xt2 ?_) | (with_reducible refine bi_xt3 ?_) | (with_reducible refine bi_T ?_) | (with_reducible refine bi_F ?_) | (with_reducible refine bi_not ?_) | (with_reducible refine bi_and ?_) | (with_reducible refine bi_or ?_) | (with_reducible refine bi_xor ?_) | (with_reducible refine bi_shr (by omega) (by decide) ?_) | (with_reducible refine bi_shl (by omega) (by decide) ?_) | (with_reducible refine bi_quo64 (by omega) ?_) | (with_reducible refine bi_rem64 (by omega) ?_) | (with_reducible refine bi_mul64 (by omega) ?_) | (with_reducible refine bi_neg ?_) | (with_reducible refine bi_un_xor32 ?_) | (with_reducible refine bi_add ?_) | (with_reducible refine bi_sub ?_) | (with_reducible refine bi_mul ?_) | (with_reducible refine bi_quo (by decide) ?_) | (with_reducible refine bi_rem (by decide) ?_)))
      exact ⟨by rw [decide_eq_false (by omega)], rfl⟩
  · (repeat (first | (with_reducible refine nck ?_) | (with_reducible refine cdT ?_) | (with_reducible refine cdF ?_) | (with_reducible refine gdY ?_) | (with_reducible refine gdFT ?_) | (with_reducible refine gdTF ?_) | (with_reducible refine gdU ?_) | (with_reducible refine gaY ?_) | (with_reducible refine gaFT ?_) | (with_reducible refine gaTF ?_) | (with_reducible refine pickT ?_) | (with_reducible refine pickF ?_) | (with_reducible refine bi_lss_t (by omega) ?_) | (with_reducible refine bi_lss_f (by omega) ?_) | (with_reducible refine bi_add64 (by omega) ?_) | (with_reducible refine bi_sub64 (by omega) ?_) | (with_reducible refine bi_eql_t (by omega) ?_) | (with_reducible refine bi_eql_f (by omega) ?_) | (with_reducible refine bi_neq_t (by omega) ?_) | (with_reducible refine bi_neq_f (by omega) ?_) | (with_reducible refine bi_gtr_t (by omega) ?_) | (with_reducible refine bi_gtr_f (by omega) ?_) | (with_reducible refine bi_leq_t (by omega) ?_) | (with_reducible refine bi_leq_f (by omega) ?_) | (with_reducible refine bi_geq_t (by omega) ?_) | (with_reducible refine bi_geq_f (by omega) ?_) | (with_reducible refine bi_xt0 ?_) | (with_reducible refine bi_xt1 ?_) | (with_reducible refine bi_xt2 ?_) | (with_reducible refine bi_xt3 ?_) | (with_reducible refine bi_T ?_) | (with_reducible refine bi_F ?_) | (with_reducible refine bi_not ?_) | (with_reducible refine bi_and ?_) | (with_reducible refine bi_or ?_) | (with_reducible refine bi_xor ?_) | (with_reducible refine bi_shr (by omega) (by decide) ?_) | (with_reducible refine bi_shl (by omega) (by decide) ?_) | (with_reducible refine bi_quo64 (by omega) ?_) | (with_reducible refine bi_rem64 (by omega) ?_) | (with_reducible refine bi_mul64 (by omega) ?_) | (with_reducible refine bi_neg ?_) | (with_reducible refine bi_un_xor32 ?_) | (with_reducible refine bi_add ?_) | (with_reducible refine bi_sub ?_) | (with_reducible refine bi_mul ?_) | (with_reducible refine bi_quo (by decide) ?_) | (with_reducible refine bi_rem (by decide) ?_)))
    exact ⟨by rw [decide_eq_false (by omega)], rfl⟩
theorem CloneV_spec (v : Value) (l : List ValT) (w : World) (hv : Vals w [v] l) (hl : l.length ≤ 100000) :
    CallP Try.prog 45 #[v] (fun r w' => ∃ A c, r = .slice A l.length c ∧ w'.ownsRow 0 36 3 (.slice A l.length c) l.length (l.flatMap valF) ∧ Fresh w.heap.size (.slice A l.length c) ∧ Below w.heap.size w w') w := by
  have hv0 := hv
  obtain ⟨A, c, rfl, hc1, hc2⟩ := hv.slice
  refine ⟨S45.calls _ _ _ ?_⟩
  unfold S45
  refine ofPR (pr_slnil und24) ?_
  cases A with
  | none =>
    have h0 : l = [] := by
      cases l with
      | nil => rfl
      | cons p r => obtain ⟨a, us, h, _⟩ := rRow.at hv 0 (by simp); cases h
    subst h0
    simp only [Option.isNone_none]
    (repeat (first | (with_reducible refine nck ?_) | (with_reducible refine cdT ?_) | (with_reducible refine cdF ?_) | (with_reducible refine gdY ?_) | (with_reducible refine gdFT ?_) | (with_reducible refine gdTF ?_) | (with_reducible refine gdU ?_) | (with_reducible refine gaY ?_) | (with_reducible refine gaFT ?_) | (with_reducible refine gaTF ?_) | (with_reducible refine pickT ?_) | (with_reducible refine pickF ?_) | (with_reducible refine bi_lss_t (by omega) ?_) | (with_reducible refine bi_lss_f (by omega) ?_) | (with_reducible refine bi_add64 (by omega) ?_) | (with_reducible refine bi_sub64 (by omega) ?_) | (with_reducible refine bi_eql_t (by omega) ?_) | (with_reducible refine bi_eql_f (by omega) ?_) | (with_reducible refine bi_neq_t (by omega) ?_) | (with_reducible refine bi_neq_f (by omega) ?_) | (with_reducible refine bi_gtr_t (by omega) ?_) | (with_reducible refine bi_gtr_f (by omega) ?_) | (with_reducible refine bi_leq_t (by omega) ?_) | (with_reducible refine bi_leq_f (by omega) ?_) | (with_reducible refine bi_geq_t (by omega) ?_) | (with_reducible refine bi_geq_f (by omega) ?_) | (with_reducible refine bi_xt0 ?_) | (with_reducible refine bi_xt1 ?_) | (with_reducible refine bi_xt2 ?_) | (with_reducible refine bi_xt3 ?_) | (with_reducible refine bi_T ?_) | (with_reducible refine bi_F ?_) | (with_reducible refine bi_not ?_) | (with_reducible refine bi_and ?_) | (with_reducible refine bi_or ?_) | (with_reducible refine bi_xor ?_) | (with_reducible refine bi_shr (by omega) (by decide) ?_) | (with_reducible refine bi_shl (by omega) (by decide) ?_) | (with_reducible refine bi_quo64 (by omega) ?_) | (with_reducible refine bi_rem64 (by omega) ?_) | (with_reducible refine bi_mul64 (by omega) ?_) | (with_reducible refine bi_neg ?_) | (with_reducible refine bi_un_xor32 ?_) | (with_reducible refine bi_add ?_) | (with_reducible refine bi_sub ?_) | (with_reducible refine bi_mul ?_) | (with_reducible refine bi_quo (by decide) ?_) | (with_reducible refine bi_rem (by decide) ?_)))
    exact ⟨none, 0, rfl, ⟨by simp, .inl ⟨rfl, rfl⟩⟩, Fresh.nil _, Below.refl _ w⟩
  | some a =>
    simp only [Option.isNone_some]
    (repeat (first | (with_reducible refine nck ?_) | (with_reducible refine cdT ?_) | (with_reducible refine cdF ?_) | (with_reducible refine gdY ?_) | (with_reducible refine gdFT ?_) | (with_reducible refine gdTF ?_) | (with_reducible refine gdU ?_) | (with_reducible refine gaY ?_) | (with_reducible refine gaFT ?_) | (with_reducible refine gaTF ?_) | (with_reducible refine pickT ?_) | (with_reducible refine pickF ?_) | (with_reducible refine bi_lss_t (by omega) ?_) | (with_reducible refine bi_lss_f (by omega) ?_) | (with_reducible refine bi_add64 (by omega) ?_) | (with_reducible refine bi_sub64 (by omega) ?_) | (with_reducible refine bi_eql_t (by omega) ?_) | (with_reducible refine bi_eql_f (by omega) ?_) | (with_reducible refine bi_neq_t (by omega) ?_) | (with_reducible refine bi_neq_f (by omega) ?_) | (with_reducible refine bi_gtr_t (by omega) ?_) | (with_reducible refine bi_gtr_f (by omega) ?_) | (with_reducible refine bi_leq_t (by omega) ?_) | (with_reducible refine bi_leq_f (by omega) ?_) | (with_reducible refine bi_geq_t (by omega) ?_) | (with_reducible refine bi_geq_f (by omega) ?_) | (with_reducible refine bi_xt0 ?_) | (with_reducible refine bi_xt1 ?_) | (with_reducible refine bi_xt2 ?_) | (with_reducible refine bi_xt3 ?_) | (with_reducible refine bi_T ?_) | (with_reducible refine bi_F ?_) | (with_reducible refine bi_not ?_) | (with_reducible refine bi_and ?_) | (with_reducible refine bi_or ?_) | (with_reducible refine bi_xor ?_) | (with_reducible refine bi_shr (by omega) (by decide) ?_) | (with_reducible refine bi_shl (by omega) (by decide) ?_) | (with_reducible refine bi_quo64 (by omega) ?_) | (with_reducible refine bi_rem64 (by omega) ?_) | (with_reducible refine bi_mul64 (by omega) ?_) | (with_reducible refine bi_neg ?_) | (with_reducible refine bi_un_xor32 ?_) | (with_reducible refine bi_add ?_) | (with_reducible refine bi_sub ?_) | (with_reducible refine bi_mul ?_) | (with_reducible refine bi_quo (by decide) ?_) | (with_reducible refine bi_rem (by decide) ?_)))
    refine bs0 und24 sz36 ?_
    have ha : Below w.heap.size w (w.alloc (.cells #[] 36)) := (Below.refl _ _).alloc (Nat.le_refl _) _
    have hown : (w.alloc (.cells #[] 36)).ownsRow 0 36 3 (.slice (some ⟨w.heap.size, 0, none⟩) 0 0) 0 [] := ⟨by simp, .inr ⟨w.heap.size, 0, #[], rfl, Nat.zero_le _, heap_alloc_new w _, Nat.le_refl _, Nat.zero_le _, by simp, by simp⟩⟩
    refine apR w.heap.size und24 inf36 (by rfl) (by decide) hown (Fresh.new (Nat.le_refl _) 0 0) ha.size (fun _ => rfl) valF_one (fun w us x h => (val_cells h).1) (keeps_Vals _ _ _ _ ha hv) (by omega) (by omega) ?_
    intro v2 w2 ho2 hf2 hb2 _
    rw [Nat.zero_add, List.nil_append] at ho2
    rcases ho2.2 with ⟨he, h0⟩ | ⟨g, cap, cur, he, _⟩
    · subst he
      rw [h0] at ho2 ⊢
      exact ⟨none, 0, rfl, ho2, Fresh.nil _, ha.trans hb2⟩
    · subst he
      exact ⟨_, _, rfl, ho2, hf2, ha.trans hb2⟩
theorem ClipV_spec {A : Option Addr} {n c : Nat} {cs : List Value} (w : World) (h : w.ownsRow 0 36 3 (.slice A n c) n cs) :
    CallP Try.prog 44 #[.slice A n c] (fun r w' => OwnS 3 36 w r n cs ∧ r.ownBlock = (Value.slice A n c).ownBlock ∧ w = w') w := by
  have hnc : n ≤ c := by
    rcases h.2 with ⟨he, h0⟩ | ⟨g, cap, cur, he, _, _, h1, _⟩
    · cases he; omega
    · cases he; exact h1
  refine ⟨S44.calls _ _ _ ?_⟩
  unfold S44
  refine ln und24 ?_
  refine ln und24 ?_
  refine ofPR (pr_cut und24 sz36 .no (.at _ _) (.at _ _) (Nat.zero_le _) (fun h => by cases h) (Nat.le_refl _) hnc (.inr (by simp))) ?_
  obtain ⟨h1, h2⟩ := ownS_cut h
  exact ⟨h1, h2, rfl⟩
theorem copied_spec (R : Rep) (p q : Value) (vs : List ValT) (w : World) (hp : Vals w [p] vs) (hq : q.oneCell' = true) (hl : vs.length ≤ 100000) :
    CallP Try.prog 27 #[.agg (R.cells p q)] (fun r w' => ∃ p', r = .agg (R.cells p' (.slice none 0 0)) ∧ OwnS 3 36 w' p' vs.length (vs.flatMap valF) ∧ Fresh w.heap.size p' ∧ Below w.heap.size w w') w := by
  obtain ⟨A, cA, rfl, _, _⟩ := hp.slice
  refine ⟨S27.calls _ _ _ ?_⟩
  unfold S27
  refine bx ?_
  have hL : Blk (w.alloc (.cells (Value.agg (R.cells (.slice A vs.length cA) q)).cells 27)) w.heap.size 27 (R.cells (.slice A vs.length cA) q) := Blk.new w 27 _
  have ha := (Below.refl w.heap.size w).alloc (Nat.le_refl _) (.cells (Value.agg (R.cells (.slice A vs.length cA) q)).cells 27)
  generalize w.alloc (.cells (Value.agg (R.cells (.slice A vs.length cA) q)).cells 27) = w1 at *
  have hs1 : w.heap.size < w1.heap.size := hL.lt
  refine al z27 ?_
  have hR : Blk (w1.alloc (.cells (Value.agg (zeroRep.cells (.slice none 0 0) (.slice none 0 0))).cells 27)) w1.heap.size 27 (zeroRep.cells (.slice none 0 0) (.slice none 0 0)) := Blk.new w1 27 _
  have ha2 := (Below.refl w1.heap.size w1).alloc (Nat.le_refl _) (.cells (Value.agg (zeroRep.cells (.slice none 0 0) (.slice none 0 0))).cells 27)
  have hL2 := hL.below' ha2
  generalize hg1 : w1.heap.size = g1 at *
  generalize w1.alloc (.cells (Value.agg (zeroRep.cells (.slice none 0 0) (.slice none 0 0))).cells 27) = w2 at *
  have hb2 : Below w.heap.size w w2 := ha.trans (ha2.mono (by omega))
  have c2 : w2.cell? ⟨w.heap.size, 2, none⟩ = some (.slice A vs.length cA) := hL2.cell 2
  (repeat (first | (with_reducible refine fd r2 (by decide) ?_) | (with_reducible refine ld one24 c2 ?_) | (with_reducible refine nck ?_) | (with_reducible refine cdT ?_) | (with_reducible refine cdF ?_) | (with_reducible refine gdY ?_) | (with_reducible refine gdFT ?_) | (with_reducible refine gdTF ?_) | (with_reducible refine gdU ?_) | (with_reducible refine gaY ?_) | (with_reducible refine gaFT ?_) | (with_reducible refine gaTF ?_) | (with_reducible refine pickT ?_) | (with_reducible refine pickF ?_) | (with_reducible refine bi_lss_t (by omega) ?_) | (with_reducible refine bi_lss_f (by omega) ?_) | (with_reducible refine bi_add64 (by omega) ?_) | (with_reducible refine bi_sub64 (by omega) ?_) | (with_reducible refine bi_eql_t (by omega) ?_) | (with_reducible refine bi_eql_f (by omega) ?_) | (with_reducible refine bi_neq_t (by omega) ?_) | (with_reducible refine bi_neq_f (by omega) ?_) | (with_reducible refine bi_gtr_t (by omega) ?_) | (with_reducible refine bi_gtr_f (by omega) ?_) | (with_reducible refine bi_leq_t (by omega) ?_) | (with_reducible refine bi_leq_f (by omega) ?_) | (with_reducible refine bi_geq_t (by omega) ?_) | (with_reducible refine bi_geq_f (by omega) ?_) | (with_reducible refine bi_xt0 ?_) | (with_reducible refine bi_xt1 ?_) | (with_reducible refine bi_xt2 ?_) | (with_reducible refine bi_xt3 ?_) | (with_reducible refine bi_T ?_) | (with_reducible refine bi_F ?_) | (with_reducible refine bi_not ?_) | (with_reducible refine bi_and ?_) | (with_reducible refine bi_or ?_) | (with_reducible refine bi_xor ?_) | (with_reducible refine bi_shr (by omega) (by decide) ?_) | (with_reducible refine bi_shl (by omega) (by decide) ?_) | (with_reducible refine bi_quo64 (by omega) ?_) | (with_reducible refine bi_rem64 (by omega) ?_) | (with_reducible refine bi_mul64 (by omega) ?_) | (with_reducible refine bi_neg ?_) | (with_reducible refine bi_un_xor32 ?_) | (with_reducible refine bi_add ?_) | (with_reducible refine bi_sub ?_) | (with_reducible refine bi_mul ?_) | (with_reducible refine bi_quo (by decide) ?_) | (with_reducible refine bi_rem (by decide) ?_)))
  refine (CloneV_spec _ vs w2 (keeps_Vals _ _ _ _ hb2 hp) hl).mono ?_
  rintro _ w3 ⟨A3, n3, rfl, ho3, hf3, hb3⟩
  refine (ClipV_spec w3 ho3).mono ?_
  rintro p4 _ ⟨ho4, hbl4, rfl⟩
  have hf4 : Fresh w2.heap.size p4 := fun k hk => hf3 k (by rw [← hbl4]; exact hk)
  have hL3 := hL2.below' hb3
  have hR3 := hR.below' hb3
  have hb3' := below_then hb2 hb3
  have h1p : p4.oneCell' = true := by obtain ⟨A, rfl⟩ := ho4.slice; rfl
  (repeat (first | (with_reducible refine fd r2 (by decide) ?_) | (with_reducible refine nck ?_) | (with_reducible refine cdT ?_) | (with_reducible refine cdF ?_) | (with_reducible refine gdY ?_) | (with_reducible refine gdFT ?_) | (with_reducible refine gdTF ?_) | (with_reducible refine gdU ?_) | (with_reducible refine gaY ?_) | (with_reducible refine gaFT ?_) | (with_reducible refine gaTF ?_) | (with_reducible refine pickT ?_) | (with_reducible refine pickF ?_) | (with_reducible refine bi_lss_t (by omega) ?_) | (with_reducible refine bi_lss_f (by omega) ?_) | (with_reducible refine bi_add64 (by omega) ?_) | (with_reducible refine bi_sub64 (by omega) ?_) | (with_reducible refine bi_eql_t (by omega) ?_) | (with_reducible refine bi_eql_f (by omega) ?_) | (with_reducible refine bi_neq_t (by omega) ?_) | (with_reducible refine bi_neq_f (by omega) ?_) | (with_reducible refine bi_gtr_t (by omega) ?_) | (with_reducible refine bi_gtr_f (by omega) ?_) | (with_reducible refine bi_leq_t (by omega) ?_) | (with_reducible refine bi_leq_f (by omega) ?_) | (with_reducible refine bi_geq_t (by omega) ?_) | (with_reducible refine bi_geq_f (by omega) ?_) | (with_reducible refine bi_xt0 ?_) | (with_reducible refine bi_xt1 ?_) | (with_reducible refine bi_xt2 ?_) | (with_reducible refine bi_xt3 ?_) | (with_reducible refine bi_T ?_) | (with_reducible refine bi_F ?_) | (with_reducible refine bi_not ?_) | (with_reducible refine bi_and ?_) | (with_reducible refine bi_or ?_) | (with_reducible refine bi_xor ?_) | (with_reducible refine bi_shr (by omega) (by decide) ?_) | (with_reducible refine bi_shl (by omega) (by decide) ?_) | (with_reducible refine bi_quo64 (by omega) ?_) | (with_reducible refine bi_rem64 (by omega) ?_) | (with_reducible refine bi_mul64 (by omega) ?_) | (with_reducible refine bi_neg ?_) | (with_reducible refine bi_un_xor32 ?_) | (with_reducible refine bi_add ?_) | (with_reducible refine bi_sub ?_) | (with_reducible refine bi_mul ?_) | (with_reducible refine bi_quo (by decide) ?_) | (with_reducible refine bi_rem (by decide) ?_)))
  refine st sz24 h1p (by rw [hL3.cell 2]; rfl) (hL3.frozen 2) ?_
  have hs3 := hb3.size
  have hs2 := hR.lt
  have hT := Turns.setCell (F := fun k => k = w.heap.size) (p := ⟨w.heap.size, 2, none⟩) (Turns.refl _ w3) (.inl rfl) p4
  have hL4 := hL3.set_ 2 p4
  rw [setR2] at hL4
  have hR4 := hR3.turns hT (by omega)
  have ho5 := ho4.turns hT (fun k hk he => by have := hf4 k hk; omega)
  have hb4 : Below w.heap.size w (w3.setCell ⟨w.heap.size, 2, none⟩ p4) := hb3'.setCell (p := ⟨w.heap.size, 2, none⟩) (Nat.le_refl _) p4
  generalize w3.setCell ⟨w.heap.size, 2, none⟩ p4 = w4 at *
  (repeat (first | (with_reducible refine fd r3 (by decide) ?_) | (with_reducible refine nck ?_) | (with_reducible refine cdT ?_) | (with_reducible refine cdF ?_) | (with_reducible refine gdY ?_) | (with_reducible refine gdFT ?_) | (with_reducible refine gdTF ?_) | (with_reducible refine gdU ?_) | (with_reducible refine gaY ?_) | (with_reducible refine gaFT ?_) | (with_reducible refine gaTF ?_) | (with_reducible refine pickT ?_) | (with_reducible refine pickF ?_) | (with_reducible refine bi_lss_t (by omega) ?_) | (with_reducible refine bi_lss_f (by omega) ?_) | (with_reducible refine bi_add64 (by omega) ?_) | (with_reducible refine bi_sub64 (by omega) ?_) | (with_reducible refine bi_eql_t (by omega) ?_) | (with_reducible refine bi_eql_f (by omega) ?_) | (with_reducible refine bi_neq_t (by omega) ?_) | (with_reducible refine bi_neq_f (by omega) ?_) | (with_reducible refine bi_gtr_t (by omega) ?_) | (with_reducible refine bi_gtr_f (by omega) ?_) | (with_reducible refine bi_leq_t (by omega) ?_) | (with_reducible refine bi_leq_f (by omega) ?_) | (with_reducible refine bi_geq_t (by omega) ?_) | (with_reducible refine bi_geq_f (by omega) ?_) | (with_reducible refine bi_xt0 ?_) | (with_reducible refine bi_xt1 ?_) | (with_reducible refine bi_xt2 ?_) | (with_reducible refine bi_xt3 ?_) | (with_reducible refine bi_T ?_) | (with_reducible refine bi_F ?_) | (with_reducible refine bi_not ?_) | (with_reducible refine bi_and ?_) | (with_reducible refine bi_or ?_) | (with_reducible refine bi_xor ?_) | (with_reducible refine bi_shr (by omega) (by decide) ?_) | (with_reducible refine bi_shl (by omega) (by decide) ?_) | (with_reducible refine bi_quo64 (by omega) ?_) | (with_reducible refine bi_rem64 (by omega) ?_) | (with_reducible refine bi_mul64 (by omega) ?_) | (with_reducible refine bi_neg ?_) | (with_reducible refine bi_un_xor32 ?_) | (with_reducible refine bi_add ?_) | (with_reducible refine bi_sub ?_) | (with_reducible refine bi_mul ?_) | (with_reducible refine bi_quo (by decide) ?_) | (with_reducible refine bi_rem (by decide) ?_)))
  refine st sz25 rfl (by rw [hL4.cell 3]; rfl) (hL4.frozen 3) ?_
  have hT2 := Turns.setCell (F := fun k => k = w.heap.size) (p := ⟨w.heap.size, 3, none⟩) (Turns.refl _ w4) (.inl rfl) (.slice none 0 0)
  have hL6 := hL4.set_ 3 (.slice none 0 0)
  rw [setR3] at hL6
  have hR6 := hR4.turns hT2 (by omega)
  have ho8 := ho5.turns hT2 (fun k hk he => by have := hf4 k hk; omega)
  have hb6 : Below w.heap.size w (w4.setCell ⟨w.heap.size, 3, none⟩ (.slice none 0 0)) := hb4.setCell (p := ⟨w.heap.size, 3, none⟩) (Nat.le_refl _) _
  generalize w4.setCell ⟨w.heap.size, 3, none⟩ (.slice none 0 0) = w6 at *
  refine ldA agg27 hL6 (by exact sz27) ?_
  refine stA hR6 (by exact sz27) (by rfl) (cellsR_one _ _ _ h1p rfl) ?_
  have hR7 := hR6.row (R.cells p4 (.slice none 0 0))
  have hT3 : Turns (fun k => k = g1) w6 (w6.setRow g1 (R.cells p4 (.slice none 0 0))) := Turns.setRow (F := fun k => k = g1) (Turns.refl _ w6) (.inl rfl) _
  have hb7 := hb6.trans (hT3.below hb6.size fun k hk he => by omega)
  refine retA agg27 hR7 (by exact sz27) ?_
  exact ⟨p4, rfl, ho8.turns hT3 (fun k hk he => by have := hf4 k hk; omega), fun k hk => by have := hf4 k hk; omega, hb7⟩
/-! ### values compared -/
def sameV (x y : ValT) : Bool := x.1 == y.1 && (x.2.1 == y.2.1 && (x.2.2.1.toList == y.2.2.1.toList && true))
theorem run_eq36 (x y : ValT) (w : World) : (Op.eqFields 9999 (valF x).toArray (valF y).toArray (Try.prog.fieldsOf 36).toList).run Try.prog w = .ok (sameV x y) w := by
  have e : (Try.prog.fieldsOf 36).toList = [(Try.prog.fieldsOf 36)[0]!, (Try.prog.fieldsOf 36)[1]!, (Try.prog.fieldsOf 36)[2]!] := by kernel_rfl
  rw [e]
  have t0 : ((Try.prog.fieldsOf 36)[0]!).type = 3 := by kernel_rfl
  have t1 : ((Try.prog.fieldsOf 36)[1]!).type = 3 := by kernel_rfl
  have t2 : ((Try.prog.fieldsOf 36)[2]!).type = 9 := by kernel_rfl
  have o0 : ((Try.prog.fieldsOf 36)[0]!).offset = 0 := by kernel_rfl
  have o1 : ((Try.prog.fieldsOf 36)[1]!).offset = 1 := by kernel_rfl
  have o2 : ((Try.prog.fieldsOf 36)[2]!).offset = 2 := by kernel_rfl
  refine eqFields_cons (by decide +kernel) (by rw [t0]; exact und3) rfl (u := .int .i64 x.1) (u' := .int .i64 y.1) (by rw [o0]; rfl) (by rw [o0]; rfl) (by rw [t0, run_equalIn_int w 9998 3 .i64 .i64 _ _ und3]) ?_
  refine eqFields_cons (by decide +kernel) (by rw [t1]; exact und3) rfl (u := .int .i64 x.2.1) (u' := .int .i64 y.2.1) (by rw [o1]; rfl) (by rw [o1]; rfl) (by rw [t1, run_equalIn_int w 9998 3 .i64 .i64 _ _ und3]) ?_
  refine eqFields_cons (by decide +kernel) (by rw [t2]; exact und9) rfl (u := .string x.2.2.1) (u' := .string y.2.2.1) (by rw [o2]; rfl) (by rw [o2]; rfl) (by rw [t2, run_equalIn_string w 9998 9 _ _ und9]) ?_
  simp [Op.eqFields]
theorem guard36 : Try.prog.eqGuardType Try.prog.depth 36 = false := by kernel_rfl
theorem fields36 : Try.prog.underlying 36 = some (.struct (Try.prog.fieldsOf 36)) := by kernel_rfl
theorem held36 : Try.prog.stoodInHeld 36 = false := by kernel_rfl
theorem pr_neq36 {x' y' : Operand} (x y : ValT) : PR Try.prog (binS .neq 36 x' y' (.agg (valF x).toArray) (.agg (valF y).toArray)) (.bool (!sameV x y)) := by
  intro w
  simp only [binS, Sem.run_bind, run_eqGuard_agg w .neq 36 x' y' (valF x).toArray (valF y).toArray guard36, Result.andThen_ok]
  rw [run_neq_struct, run_equalIn_agg w 9999 36 _ _ fields36 held36, run_eq36]
  rfl
theorem pr_eql36 {x' y' : Operand} (x y : ValT) : PR Try.prog (binS .eql 36 x' y' (.agg (valF x).toArray) (.agg (valF y).toArray)) (.bool (sameV x y)) := by
  intro w
  simp only [binS, Sem.run_bind, run_eqGuard_agg w .eql 36 x' y' (valF x).toArray (valF y).toArray guard36, Result.andThen_ok]
  rw [run_eql_struct, run_equalIn_agg w 9999 36 _ _ fields36 held36, run_eq36]
  rfl
theorem sameV_self (x : ValT) : sameV x x = true := by simp [sameV]
end Go.Proofs.Ytmnaggdhkggjhaa.E
