import Derived.Test.YtmnaggdhkggjhaaM3
import Derived.Test.YtmnaggdhkggjhaaS1
import Derived.Laws.StructEq
import Derived.Test.YtmnaggdhkggjhaaLayKeys
/- Replies: their cells; records copied, checked, compared. -/
namespace Go.Proofs.Ytmnaggdhkggjhaa.E
open Go Go.RowKit
set_option linter.unusedSimpArgs false
set_option linter.unusedVariables false

abbrev ValT := Int × Int × ByteArray × Unit
def valF (p : ValT) : List Value := [.int .i64 p.1, .int .i64 p.2.1, .string p.2.2.1]
abbrev rVal : Rdr ValT := rCons 1 (rI .i64) (rCons 1 (rI .i64) (rCons 1 rS rNil))
abbrev Vals : Rdr (List ValT) := rRow 3 rVal
abbrev RowT := ByteArray × List ValT × Unit
abbrev rRowT : Rdr RowT := rCons 1 rS (rCons 1 Vals rNil)
abbrev RowsR : Rdr (List RowT) := rRow 2 rRowT
theorem keeps_Vals : Keeps Vals := keeps_Row (keeps_Cons (keeps_I _) (keeps_Cons (keeps_I _) (keeps_Cons keeps_S keeps_Nil)))
theorem keeps_RowsR : Keeps RowsR := keeps_Row (keeps_Cons keeps_S (keeps_Cons keeps_Vals keeps_Nil))
def valOk (p : ValT) : Prop := (Lit.int .i64 p.1).wf = true ∧ (Lit.int .i64 p.2.1).wf = true ∧ p.2.2.1.size ≤ maxLen
theorem val_cells {w : World} {us : List Value} {x : ValT} (h : rVal w us x) : us = valF x ∧ valOk x := by
  obtain ⟨r, rfl, h1, h⟩ := rCons_I h
  obtain ⟨r, rfl, h2, h⟩ := rCons_I h
  obtain ⟨r, rfl, h3, h⟩ := rCons_S h
  have : r = [] := h
  subst this
  exact ⟨rfl, h1, h2, h3⟩
theorem rVal_of {w : World} {x : ValT} (h : valOk x) : rVal w (valF x) x := ⟨⟨rfl, h.1⟩, ⟨rfl, h.2.1⟩, ⟨rfl, h.2.2⟩, rfl⟩
theorem vals_ok {w : World} {v : Value} {l : List ValT} (h : Vals w [v] l) : ∀ p ∈ l, valOk p := by
  intro p hp
  obtain ⟨A, c, he, _, _, h⟩ := h
  obtain ⟨i, hi, rfl⟩ := List.getElem_of_mem hp
  obtain ⟨a, us, _, _, _, hr⟩ := h i l[i] (List.getElem?_eq_getElem hi)
  exact (val_cells hr).2
theorem valF_one : ∀ x : ValT, ∀ u ∈ valF x, u.oneCell' = true := by
  intro x u hu
  simp only [valF, List.mem_cons, List.not_mem_nil, or_false] at hu
  rcases hu with rfl | rfl | rfl <;> rfl
/-- A reply, its rows apart. -/
structure Rep where
  code : Int
  there : Bool
  id : Int
def Rep.cells (R : Rep) (p q : Value) : Array Value := #[.int .i64 R.code, .bool R.there, p, q, .int .i64 R.id]
def zeroRep : Rep := ⟨0, false, 0⟩
theorem und3 : Try.prog.underlying 3 = some (.int .i64) := by kernel_rfl
theorem und4 : Try.prog.underlying 4 = some .bool := by kernel_rfl
theorem und9 : Try.prog.underlying 9 = some .string := by kernel_rfl
theorem und22 : Try.prog.underlying 22 = some (.int .i64) := by kernel_rfl
theorem und23 : Try.prog.underlying 23 = some (.slice 36) := by kernel_rfl
theorem und24 : Try.prog.underlying 24 = some (.slice 36) := by kernel_rfl
theorem und25 : Try.prog.underlying 25 = some (.slice 94) := by kernel_rfl
theorem und51 : Try.prog.underlying 51 = some (.slice 3) := by kernel_rfl
theorem und97 : Try.prog.underlying 97 = some (.slice 22) := by kernel_rfl
theorem sz3 : (Try.prog.info? 3).map (·.size) = some 1 := by kernel_rfl
theorem sz22 : (Try.prog.info? 22).map (·.size) = some 1 := by kernel_rfl
theorem sz24 : (Try.prog.info? 24).map (·.size) = some 1 := by kernel_rfl
theorem sz25 : (Try.prog.info? 25).map (·.size) = some 1 := by kernel_rfl
theorem sz27 : (Try.prog.info? 27).map (·.size) = some 5 := by kernel_rfl
theorem sz36 : (Try.prog.info? 36).map (·.size) = some 3 := by kernel_rfl
theorem sz94 : (Try.prog.info? 94).map (·.size) = some 2 := by kernel_rfl
theorem agg27 : aggB Try.prog 27 = true := by kernel_rfl
theorem agg36 : aggB Try.prog 36 = true := by kernel_rfl
theorem one3 : oneB Try.prog 3 = true := by kernel_rfl
theorem one4 : oneB Try.prog 4 = true := by kernel_rfl
theorem one9 : oneB Try.prog 9 = true := by kernel_rfl
theorem one22 : oneB Try.prog 22 = true := by kernel_rfl
theorem one24 : oneB Try.prog 24 = true := by kernel_rfl
theorem one25 : oneB Try.prog 25 = true := by kernel_rfl
theorem z27 : (Try.prog.info? 27).bind (·.zero) = some (.agg (zeroRep.cells (.slice none 0 0) (.slice none 0 0))) := by kernel_rfl
theorem inf36 : (Try.prog.info? 36).map (fun i => (i.zero, i.size, i.bytes)) = some (some (.agg #[.int .i64 0, .int .i64 0, .string ⟨#[]⟩]), 3, 32) := by kernel_rfl
theorem r0 : fofs Try.prog 27 0 = some (0, 1) := by kernel_rfl
theorem r1 : fofs Try.prog 27 1 = some (1, 1) := by kernel_rfl
theorem r2 : fofs Try.prog 27 2 = some (2, 1) := by kernel_rfl
theorem r3 : fofs Try.prog 27 3 = some (3, 1) := by kernel_rfl
theorem r4 : fofs Try.prog 27 4 = some (4, 1) := by kernel_rfl
theorem v0 : fofs Try.prog 36 0 = some (0, 1) := by kernel_rfl
theorem v1 : fofs Try.prog 36 1 = some (1, 1) := by kernel_rfl
theorem v2 : fofs Try.prog 36 2 = some (2, 1) := by kernel_rfl
theorem cellsR_one (R : Rep) (p q : Value) (hp : p.oneCell' = true) (hq : q.oneCell' = true) : (R.cells p q).all (·.oneCell') = true := by
  rw [← Array.all_toList]
  simp only [Rep.cells, List.all_cons, hp, hq]
  rfl
theorem setR2 (R : Rep) (p q u : Value) : (R.cells p q).setIfInBounds 2 u = R.cells u q := rfl
theorem setR3 (R : Rep) (p q u : Value) : (R.cells p q).setIfInBounds 3 u = R.cells p u := rfl
theorem newRep {K : Value → World → Prop} {w : World} {R : Rep} {p q : Value} (hp : p.oneCell' = true) (hq : q.oneCell' = true)
    (k : ∀ w', Blk w' w.heap.size 27 (R.cells p q) → Below w.heap.size w w' → K (.pointer (some ⟨w.heap.size, 0, none⟩)) w') :
    LiftP Try.prog (Instr.alloc 27 true (.tuple #[])) (fun v w => LiftU Try.prog (Instr.storeAt 27 v (.agg (R.cells p q))) (fun _ w => K v w) w) w := by
  refine al z27 ?_
  have hR : Blk (w.alloc (.cells (Value.agg (zeroRep.cells (.slice none 0 0) (.slice none 0 0))).cells 27)) w.heap.size 27 (zeroRep.cells (.slice none 0 0) (.slice none 0 0)) := Blk.new w 27 _
  have ha := (Below.refl w.heap.size w).alloc (Nat.le_refl _) (.cells (Value.agg (zeroRep.cells (.slice none 0 0) (.slice none 0 0))).cells 27)
  refine stA hR (by exact sz27) (by rfl) (cellsR_one _ _ _ hp hq) ?_
  exact k _ (hR.row (R.cells p q)) (below_setRow ha (Nat.le_refl _) _)
theorem within_spec (n m : Int) (w : World) : CallP Try.prog 24 #[.int .i64 n, .int .i64 m] (fun r w' => r = .bool (decide (m ≤ n ∧ n ≤ 1099511627776)) ∧ w = w') w := by
  refine ⟨S24.calls _ _ _ _ ?_⟩
  unfold S24
  refine bi_geq_c (fun h => ?_) (fun h => ?_)
  · (repeat with_reducible first | refine nck ?_ | refine cdT ?_ | refine cdF ?_ | refine gdY ?_ | refine gdFT ?_ | refine gdTF ?_ | refine gdU ?_ | refine gaY ?_ | refine gaFT ?_ | refine gaTF ?_ | refine pickT ?_ | refine pickF ?_ | refine bi_lss_t (by omega) ?_ | refine bi_lss_f (by omega) ?_ | refine bi_add64 (by omega) ?_ | refine bi_sub64 (by omega) ?_ | refine bi_eql_t (by omega) ?_ | refine bi_eql_f (by omega) ?_ | refine bi_neq_t (by omega) ?_ | refine bi_neq_f (by omega) ?_ | refine bi_gtr_t (by omega) ?_ | refine bi_gtr_f (by omega) ?_ | refine bi_leq_t (by omega) ?_ | refine bi_leq_f (by omega) ?_ | refine bi_geq_t (by omega) ?_ | refine bi_geq_f (by omega) ?_ | refine bi_xt0 ?_ | refine bi_xt1 ?_ | refine bi_xt2 ?_ | refine bi_xt3 ?_ | refine bi_T ?_ | refine bi_F ?_ | refine bi_not ?_ | refine bi_and ?_ | refine bi_or ?_ | refine bi_xor ?_ | refine bi_shr (by omega) (by decide) ?_ | refine bi_shl (by omega) (by decide) ?_ | refine bi_quo64 (by omega) ?_ | refine bi_rem64 (by omega) ?_ | refine bi_mul64 (by omega) ?_ | refine bi_neg ?_ | refine bi_un_xor32 ?_ | refine bi_add ?_ | refine bi_sub ?_ | refine bi_mul ?_ | refine bi_quo (by decide) ?_ | refine bi_rem (by decide) ?_)
    refine bi_leq_c (fun h2 => ?_) (fun h2 => ?_)
    · (repeat with_reducible first | refine nck ?_ | refine cdT ?_ | refine cdF ?_ | refine gdY ?_ | refine gdFT ?_ | refine gdTF ?_ | refine gdU ?_ | refine gaY ?_ | refine gaFT ?_ | refine gaTF ?_ | refine pickT ?_ | refine pickF ?_ | refine bi_lss_t (by omega) ?_ | refine bi_lss_f (by omega) ?_ | refine bi_add64 (by omega) ?_ | refine bi_sub64 (by omega) ?_ | refine bi_eql_t (by omega) ?_ | refine bi_eql_f (by omega) ?_ | refine bi_neq_t (by omega) ?_ | refine bi_neq_f (by omega) ?_ | refine bi_gtr_t (by omega) ?_ | refine bi_gtr_f (by omega) ?_ | refine bi_leq_t (by omega) ?_ | refine bi_leq_f (by omega) ?_ | refine bi_geq_t (by omega) ?_ | refine bi_geq_f (by omega) ?_ | refine bi_xt0 ?_ | refine bi_xt1 ?_ | refine bi_xt2 ?_ | refine bi_xt3 ?_ | refine bi_T ?_ | refine bi_F ?_ | refine bi_not ?_ | refine bi_and ?_ | refine bi_or ?_ | refine bi_xor ?_ | refine bi_shr (by omega) (by decide) ?_ | refine bi_shl (by omega) (by decide) ?_ | refine bi_quo64 (by omega) ?_ | refine bi_rem64 (by omega) ?_ | refine bi_mul64 (by omega) ?_ | refine bi_neg ?_ | refine bi_un_xor32 ?_ | refine bi_add ?_ | refine bi_sub ?_ | refine bi_mul ?_ | refine bi_quo (by decide) ?_ | refine bi_rem (by decide) ?_)
      exact ⟨by rw [decide_eq_true (by omega)], rfl⟩
    · (repeat with_reducible first | refine nck ?_ | refine cdT ?_ | refine cdF ?_ | refine gdY ?_ | refine gdFT ?_ | refine gdTF ?_ | refine gdU ?_ | refine gaY ?_ | refine gaFT ?_ | refine gaTF ?_ | refine pickT ?_ | refine pickF ?_ | refine bi_lss_t (by omega) ?_ | refine bi_lss_f (by omega) ?_ | refine bi_add64 (by omega) ?_ | refine bi_sub64 (by omega) ?_ | refine bi_eql_t (by omega) ?_ | refine bi_eql_f (by omega) ?_ | refine bi_neq_t (by omega) ?_ | refine bi_neq_f (by omega) ?_ | refine bi_gtr_t (by omega) ?_ | refine bi_gtr_f (by omega) ?_ | refine bi_leq_t (by omega) ?_ | refine bi_leq_f (by omega) ?_ | refine bi_geq_t (by omega) ?_ | refine bi_geq_f (by omega) ?_ | refine bi_xt0 ?_ | refine bi_xt1 ?_ | refine bi_xt2 ?_ | refine bi_xt3 ?_ | refine bi_T ?_ | refine bi_F ?_ | refine bi_not ?_ | refine bi_and ?_ | refine bi_or ?_ | refine bi_xor ?_ | refine bi_shr (by omega) (by decide) ?_ | refine bi_shl (by omega) (by decide) ?_ | refine bi_quo64 (by omega) ?_ | refine bi_rem64 (by omega) ?_ | refine bi_mul64 (by omega) ?_ | refine bi_neg ?_ | refine bi_un_xor32 ?_ | refine bi_add ?_ | refine bi_sub ?_ | refine bi_mul ?_ | refine bi_quo (by decide) ?_ | refine bi_rem (by decide) ?_)
      exact ⟨by rw [decide_eq_false (by omega)], rfl⟩
  · (repeat with_reducible first | refine nck ?_ | refine cdT ?_ | refine cdF ?_ | refine gdY ?_ | refine gdFT ?_ | refine gdTF ?_ | refine gdU ?_ | refine gaY ?_ | refine gaFT ?_ | refine gaTF ?_ | refine pickT ?_ | refine pickF ?_ | refine bi_lss_t (by omega) ?_ | refine bi_lss_f (by omega) ?_ | refine bi_add64 (by omega) ?_ | refine bi_sub64 (by omega) ?_ | refine bi_eql_t (by omega) ?_ | refine bi_eql_f (by omega) ?_ | refine bi_neq_t (by omega) ?_ | refine bi_neq_f (by omega) ?_ | refine bi_gtr_t (by omega) ?_ | refine bi_gtr_f (by omega) ?_ | refine bi_leq_t (by omega) ?_ | refine bi_leq_f (by omega) ?_ | refine bi_geq_t (by omega) ?_ | refine bi_geq_f (by omega) ?_ | refine bi_xt0 ?_ | refine bi_xt1 ?_ | refine bi_xt2 ?_ | refine bi_xt3 ?_ | refine bi_T ?_ | refine bi_F ?_ | refine bi_not ?_ | refine bi_and ?_ | refine bi_or ?_ | refine bi_xor ?_ | refine bi_shr (by omega) (by decide) ?_ | refine bi_shl (by omega) (by decide) ?_ | refine bi_quo64 (by omega) ?_ | refine bi_rem64 (by omega) ?_ | refine bi_mul64 (by omega) ?_ | refine bi_neg ?_ | refine bi_un_xor32 ?_ | refine bi_add ?_ | refine bi_sub ?_ | refine bi_mul ?_ | refine bi_quo (by decide) ?_ | refine bi_rem (by decide) ?_)
    exact ⟨by rw [decide_eq_false (by omega)], rfl⟩
theorem CloneV_spec (v : Value) (l : List ValT) (w : World) (hv : Vals w [v] l) (hl : l.length ≤ 100000) :
    CallP Try.prog 45 #[v] (fun r w' => ∃ A c, r = .slice A l.length c ∧ w'.ownsRow 0 36 3 (.slice A l.length c) l.length (l.flatMap valF) ∧ Fresh w.heap.size (.slice A l.length c) ∧ Below w.heap.size w w') w := by
  have hv0 := hv
  obtain ⟨A, c, rfl, hc1, hc2⟩ := hv.slice
  refine ⟨S45.calls _ _ _ ?_⟩
  unfold S45
  refine ofPR (pr_slnil und24) ?_
  cases A with
  | none =>
    have h0 : l = [] := by
      cases l with
      | nil => rfl
      | cons p r => obtain ⟨a, us, h, _⟩ := rRow.at hv 0 (by simp); cases h
    subst h0
    simp only [Option.isNone_none]
    (repeat with_reducible first | refine nck ?_ | refine cdT ?_ | refine cdF ?_ | refine gdY ?_ | refine gdFT ?_ | refine gdTF ?_ | refine gdU ?_ | refine gaY ?_ | refine gaFT ?_ | refine gaTF ?_ | refine pickT ?_ | refine pickF ?_ | refine bi_lss_t (by omega) ?_ | refine bi_lss_f (by omega) ?_ | refine bi_add64 (by omega) ?_ | refine bi_sub64 (by omega) ?_ | refine bi_eql_t (by omega) ?_ | refine bi_eql_f (by omega) ?_ | refine bi_neq_t (by omega) ?_ | refine bi_neq_f (by omega) ?_ | refine bi_gtr_t (by omega) ?_ | refine bi_gtr_f (by omega) ?_ | refine bi_leq_t (by omega) ?_ | refine bi_leq_f (by omega) ?_ | refine bi_geq_t (by omega) ?_ | refine bi_geq_f (by omega) ?_ | refine bi_xt0 ?_ | refine bi_xt1 ?_ | refine bi_xt2 ?_ | refine bi_xt3 ?_ | refine bi_T ?_ | refine bi_F ?_ | refine bi_not ?_ | refine bi_and ?_ | refine bi_or ?_ | refine bi_xor ?_ | refine bi_shr (by omega) (by decide) ?_ | refine bi_shl (by omega) (by decide) ?_ | refine bi_quo64 (by omega) ?_ | refine bi_rem64 (by omega) ?_ | refine bi_mul64 (by omega) ?_ | refine bi_neg ?_ | refine bi_un_xor32 ?_ | refine bi_add ?_ | refine bi_sub ?_ | refine bi_mul ?_ | refine bi_quo (by decide) ?_ | refine bi_rem (by decide) ?_)
    exact ⟨none, 0, rfl, ⟨by simp, .inl ⟨rfl, rfl⟩⟩, Fresh.nil _, Below.refl _ w⟩
  | some a =>
    simp only [Option.isNone_some]
    (repeat with_reducible first | refine nck ?_ | refine cdT ?_ | refine cdF ?_ | refine gdY ?_ | refine gdFT ?_ | refine gdTF ?_ | refine gdU ?_ | refine gaY ?_ | refine gaFT ?_ | refine gaTF ?_ | refine pickT ?_ | refine pickF ?_ | refine bi_lss_t (by omega) ?_ | refine bi_lss_f (by omega) ?_ | refine bi_add64 (by omega) ?_ | refine bi_sub64 (by omega) ?_ | refine bi_eql_t (by omega) ?_ | refine bi_eql_f (by omega) ?_ | refine bi_neq_t (by omega) ?_ | refine bi_neq_f (by omega) ?_ | refine bi_gtr_t (by omega) ?_ | refine bi_gtr_f (by omega) ?_ | refine bi_leq_t (by omega) ?_ | refine bi_leq_f (by omega) ?_ | refine bi_geq_t (by omega) ?_ | refine bi_geq_f (by omega) ?_ | refine bi_xt0 ?_ | refine bi_xt1 ?_ | refine bi_xt2 ?_ | refine bi_xt3 ?_ | refine bi_T ?_ | refine bi_F ?_ | refine bi_not ?_ | refine bi_and ?_ | refine bi_or ?_ | refine bi_xor ?_ | refine bi_shr (by omega) (by decide) ?_ | refine bi_shl (by omega) (by decide) ?_ | refine bi_quo64 (by omega) ?_ | refine bi_rem64 (by omega) ?_ | refine bi_mul64 (by omega) ?_ | refine bi_neg ?_ | refine bi_un_xor32 ?_ | refine bi_add ?_ | refine bi_sub ?_ | refine bi_mul ?_ | refine bi_quo (by decide) ?_ | refine bi_rem (by decide) ?_)
    refine bs0 und24 sz36 ?_
    have ha : Below w.heap.size w (w.alloc (.cells #[] 36)) := (Below.refl _ _).alloc (Nat.le_refl _) _
    have hown : (w.alloc (.cells #[] 36)).ownsRow 0 36 3 (.slice (some ⟨w.heap.size, 0, none⟩) 0 0) 0 [] := ⟨by simp, .inr ⟨w.heap.size, 0, #[], rfl, Nat.zero_le _, heap_alloc_new w _, Nat.le_refl _, Nat.zero_le _, by simp, by simp⟩⟩
    refine apR w.heap.size und24 inf36 (by rfl) (by decide) hown (Fresh.new (Nat.le_refl _) 0 0) ha.size (fun _ => rfl) valF_one (fun w us x h => (val_cells h).1) (keeps_Vals _ _ _ _ ha hv) (by omega) (by omega) ?_
    intro v2 w2 ho2 hf2 hb2 _
    rw [Nat.zero_add, List.nil_append] at ho2
    rcases ho2.2 with ⟨he, h0⟩ | ⟨g, cap, cur, he, _⟩
    · subst he
      rw [h0] at ho2 ⊢
      exact ⟨none, 0, rfl, ho2, Fresh.nil _, ha.trans hb2⟩
    · subst he
      exact ⟨_, _, rfl, ho2, hf2, ha.trans hb2⟩
theorem ClipV_spec {A : Option Addr} {n c : Nat} {cs : List Value} (w : World) (h : w.ownsRow 0 36 3 (.slice A n c) n cs) :
    CallP Try.prog 44 #[.slice A n c] (fun r w' => OwnS 3 36 w r n cs ∧ r.ownBlock = (Value.slice A n c).ownBlock ∧ w = w') w := by
  have hnc : n ≤ c := by
    rcases h.2 with ⟨he, h0⟩ | ⟨g, cap, cur, he, _, _, h1, _⟩
    · cases he; omega
    · cases he; exact h1
  refine ⟨S44.calls _ _ _ ?_⟩
  unfold S44
  refine ln und24 ?_
  refine ln und24 ?_
  refine ofPR (pr_cut und24 sz36 .no (.at _ _) (.at _ _) (Nat.zero_le _) (fun h => by cases h) (Nat.le_refl _) hnc (.inr (by simp))) ?_
  obtain ⟨h1, h2⟩ := ownS_cut h
  exact ⟨h1, h2, rfl⟩
theorem copied_spec (R : Rep) (p q : Value) (vs : List ValT) (w : World) (hp : Vals w [p] vs) (hq : q.oneCell' = true) (hl : vs.length ≤ 100000) :
    CallP Try.prog 27 #[.agg (R.cells p q)] (fun r w' => ∃ p', r = .agg (R.cells p' (.slice none 0 0)) ∧ OwnS 3 36 w' p' vs.length (vs.flatMap valF) ∧ Fresh w.heap.size p' ∧ Below w.heap.size w w') w := by
  obtain ⟨A, cA, rfl, _, _⟩ := hp.slice
  refine ⟨S27.calls _ _ _ ?_⟩
  unfold S27
  refine bx ?_
  have hL : Blk (w.alloc (.cells (Value.agg (R.cells (.slice A vs.length cA) q)).cells 27)) w.heap.size 27 (R.cells (.slice A vs.length cA) q) := Blk.new w 27 _
  have ha := (Below.refl w.heap.size w).alloc (Nat.le_refl _) (.cells (Value.agg (R.cells (.slice A vs.length cA) q)).cells 27)
  generalize w.alloc (.cells (Value.agg (R.cells (.slice A vs.length cA) q)).cells 27) = w1 at *
  have hs1 : w.heap.size < w1.heap.size := hL.lt
  refine al z27 ?_
  have hR : Blk (w1.alloc (.cells (Value.agg (zeroRep.cells (.slice none 0 0) (.slice none 0 0))).cells 27)) w1.heap.size 27 (zeroRep.cells (.slice none 0 0) (.slice none 0 0)) := Blk.new w1 27 _
  have ha2 := (Below.refl w1.heap.size w1).alloc (Nat.le_refl _) (.cells (Value.agg (zeroRep.cells (.slice none 0 0) (.slice none 0 0))).cells 27)
  have hL2 := hL.below' ha2
  generalize hg1 : w1.heap.size = g1 at *
  generalize w1.alloc (.cells (Value.agg (zeroRep.cells (.slice none 0 0) (.slice none 0 0))).cells 27) = w2 at *
  have hb2 : Below w.heap.size w w2 := ha.trans (ha2.mono (by omega))
  have c2 : w2.cell? ⟨w.heap.size, 2, none⟩ = some (.slice A vs.length cA) := hL2.cell 2
  (repeat with_reducible first | refine fd r2 (by decide) ?_ | refine ld one24 c2 ?_ | refine nck ?_ | refine cdT ?_ | refine cdF ?_ | refine gdY ?_ | refine gdFT ?_ | refine gdTF ?_ | refine gdU ?_ | refine gaY ?_ | refine gaFT ?_ | refine gaTF ?_ | refine pickT ?_ | refine pickF ?_ | refine bi_lss_t (by omega) ?_ | refine bi_lss_f (by omega) ?_ | refine bi_add64 (by omega) ?_ | refine bi_sub64 (by omega) ?_ | refine bi_eql_t (by omega) ?_ | refine bi_eql_f (by omega) ?_ | refine bi_neq_t (by omega) ?_ | refine bi_neq_f (by omega) ?_ | refine bi_gtr_t (by omega) ?_ | refine bi_gtr_f (by omega) ?_ | refine bi_leq_t (by omega) ?_ | refine bi_leq_f (by omega) ?_ | refine bi_geq_t (by omega) ?_ | refine bi_geq_f (by omega) ?_ | refine bi_xt0 ?_ | refine bi_xt1 ?_ | refine bi_xt2 ?_ | refine bi_xt3 ?_ | refine bi_T ?_ | refine bi_F ?_ | refine bi_not ?_ | refine bi_and ?_ | refine bi_or ?_ | refine bi_xor ?_ | refine bi_shr (by omega) (by decide) ?_ | refine bi_shl (by omega) (by decide) ?_ | refine bi_quo64 (by omega) ?_ | refine bi_rem64 (by omega) ?_ | refine bi_mul64 (by omega) ?_ | refine bi_neg ?_ | refine bi_un_xor32 ?_ | refine bi_add ?_ | refine bi_sub ?_ | refine bi_mul ?_ | refine bi_quo (by decide) ?_ | refine bi_rem (by decide) ?_)
  refine (CloneV_spec _ vs w2 (keeps_Vals _ _ _ _ hb2 hp) hl).mono ?_
  rintro _ w3 ⟨A3, n3, rfl, ho3, hf3, hb3⟩
  refine (ClipV_spec w3 ho3).mono ?_
  rintro p4 _ ⟨ho4, hbl4, rfl⟩
  have hf4 : Fresh w2.heap.size p4 := fun k hk => hf3 k (by rw [← hbl4]; exact hk)
  have hL3 := hL2.below' hb3
  have hR3 := hR.below' hb3
  have hb3' := below_then hb2 hb3
  have h1p : p4.oneCell' = true := by obtain ⟨A, rfl⟩ := ho4.slice; rfl
  (repeat with_reducible first | refine fd r2 (by decide) ?_ | refine nck ?_ | refine cdT ?_ | refine cdF ?_ | refine gdY ?_ | refine gdFT ?_ | refine gdTF ?_ | refine gdU ?_ | refine gaY ?_ | refine gaFT ?_ | refine gaTF ?_ | refine pickT ?_ | refine pickF ?_ | refine bi_lss_t (by omega) ?_ | refine bi_lss_f (by omega) ?_ | refine bi_add64 (by omega) ?_ | refine bi_sub64 (by omega) ?_ | refine bi_eql_t (by omega) ?_ | refine bi_eql_f (by omega) ?_ | refine bi_neq_t (by omega) ?_ | refine bi_neq_f (by omega) ?_ | refine bi_gtr_t (by omega) ?_ | refine bi_gtr_f (by omega) ?_ | refine bi_leq_t (by omega) ?_ | refine bi_leq_f (by omega) ?_ | refine bi_geq_t (by omega) ?_ | refine bi_geq_f (by omega) ?_ | refine bi_xt0 ?_ | refine bi_xt1 ?_ | refine bi_xt2 ?_ | refine bi_xt3 ?_ | refine bi_T ?_ | refine bi_F ?_ | refine bi_not ?_ | refine bi_and ?_ | refine bi_or ?_ | refine bi_xor ?_ | refine bi_shr (by omega) (by decide) ?_ | refine bi_shl (by omega) (by decide) ?_ | refine bi_quo64 (by omega) ?_ | refine bi_rem64 (by omega) ?_ | refine bi_mul64 (by omega) ?_ | refine bi_neg ?_ | refine bi_un_xor32 ?_ | refine bi_add ?_ | refine bi_sub ?_ | refine bi_mul ?_ | refine bi_quo (by decide) ?_ | refine bi_rem (by decide) ?_)
  refine st sz24 h1p (by rw [hL3.cell 2]; rfl) (hL3.frozen 2) ?_
  have hs3 := hb3.size
  have hs2 := hR.lt
  have hT := Turns.setCell (F := fun k => k = w.heap.size) (p := ⟨w.heap.size, 2, none⟩) (Turns.refl _ w3) (.inl rfl) p4
  have hL4 := hL3.set_ 2 p4
  rw [setR2] at hL4
  have hR4 := hR3.turns hT (by omega)
  have ho5 := ho4.turns hT (fun k hk he => by have := hf4 k hk; omega)
  have hb4 : Below w.heap.size w (w3.setCell ⟨w.heap.size, 2, none⟩ p4) := hb3'.setCell (p := ⟨w.heap.size, 2, none⟩) (Nat.le_refl _) p4
  generalize w3.setCell ⟨w.heap.size, 2, none⟩ p4 = w4 at *
  (repeat with_reducible first | refine fd r3 (by decide) ?_ | refine nck ?_ | refine cdT ?_ | refine cdF ?_ | refine gdY ?_ | refine gdFT ?_ | refine gdTF ?_ | refine gdU ?_ | refine gaY ?_ | refine gaFT ?_ | refine gaTF ?_ | refine pickT ?_ | refine pickF ?_ | refine bi_lss_t (by omega) ?_ | refine bi_lss_f (by omega) ?_ | refine bi_add64 (by omega) ?_ | refine bi_sub64 (by omega) ?_ | refine bi_eql_t (by omega) ?_ | refine bi_eql_f (by omega) ?_ | refine bi_neq_t (by omega) ?_ | refine bi_neq_f (by omega) ?_ | refine bi_gtr_t (by omega) ?_ | refine bi_gtr_f (by omega) ?_ | refine bi_leq_t (by omega) ?_ | refine bi_leq_f (by omega) ?_ | refine bi_geq_t (by omega) ?_ | refine bi_geq_f (by omega) ?_ | refine bi_xt0 ?_ | refine bi_xt1 ?_ | refine bi_xt2 ?_ | refine bi_xt3 ?_ | refine bi_T ?_ | refine bi_F ?_ | refine bi_not ?_ | refine bi_and ?_ | refine bi_or ?_ | refine bi_xor ?_ | refine bi_shr (by omega) (by decide) ?_ | refine bi_shl (by omega) (by decide) ?_ | refine bi_quo64 (by omega) ?_ | refine bi_rem64 (by omega) ?_ | refine bi_mul64 (by omega) ?_ | refine bi_neg ?_ | refine bi_un_xor32 ?_ | refine bi_add ?_ | refine bi_sub ?_ | refine bi_mul ?_ | refine bi_quo (by decide) ?_ | refine bi_rem (by decide) ?_)
  refine st sz25 rfl (by rw [hL4.cell 3]; rfl) (hL4.frozen 3) ?_
  have hT2 := Turns.setCell (F := fun k => k = w.heap.size) (p := ⟨w.heap.size, 3, none⟩) (Turns.refl _ w4) (.inl rfl) (.slice none 0 0)
  have hL6 := hL4.set_ 3 (.slice none 0 0)
  rw [setR3] at hL6
  have hR6 := hR4.turns hT2 (by omega)
  have ho8 := ho5.turns hT2 (fun k hk he => by have := hf4 k hk; omega)
  have hb6 : Below w.heap.size w (w4.setCell ⟨w.heap.size, 3, none⟩ (.slice none 0 0)) := hb4.setCell (p := ⟨w.heap.size, 3, none⟩) (Nat.le_refl _) _
  generalize w4.setCell ⟨w.heap.size, 3, none⟩ (.slice none 0 0) = w6 at *
  refine ldA agg27 hL6 (by exact sz27) ?_
  refine stA hR6 (by exact sz27) (by rfl) (cellsR_one _ _ _ h1p rfl) ?_
  have hR7 := hR6.row (R.cells p4 (.slice none 0 0))
  have hT3 : Turns (fun k => k = g1) w6 (w6.setRow g1 (R.cells p4 (.slice none 0 0))) := Turns.setRow (F := fun k => k = g1) (Turns.refl _ w6) (.inl rfl) _
  have hb7 := hb6.trans (hT3.below hb6.size fun k hk he => by omega)
  refine retA agg27 hR7 (by exact sz27) ?_
  exact ⟨p4, rfl, ho8.turns hT3 (fun k hk he => by have := hf4 k hk; omega), fun k hk => by have := hf4 k hk; omega, hb7⟩
/-! ### values compared -/
def sameV (x y : ValT) : Bool := x.1 == y.1 && (x.2.1 == y.2.1 && (x.2.2.1.toList == y.2.2.1.toList && true))
theorem run_eq36 (x y : ValT) (w : World) : (Op.eqFields 9999 (valF x).toArray (valF y).toArray (Try.prog.fieldsOf 36).toList).run Try.prog w = .ok (sameV x y) w := by
  have e : (Try.prog.fieldsOf 36).toList = [(Try.prog.fieldsOf 36)[0]!, (Try.prog.fieldsOf 36)[1]!, (Try.prog.fieldsOf 36)[2]!] := by kernel_rfl
  rw [e]
  have t0 : ((Try.prog.fieldsOf 36)[0]!).type = 3 := by kernel_rfl
  have t1 : ((Try.prog.fieldsOf 36)[1]!).type = 3 := by kernel_rfl
  have t2 : ((Try.prog.fieldsOf 36)[2]!).type = 9 := by kernel_rfl
  have o0 : ((Try.prog.fieldsOf 36)[0]!).offset = 0 := by kernel_rfl
  have o1 : ((Try.prog.fieldsOf 36)[1]!).offset = 1 := by kernel_rfl
  have o2 : ((Try.prog.fieldsOf 36)[2]!).offset = 2 := by kernel_rfl
  refine eqFields_cons (by decide +kernel) (by rw [t0]; exact und3) rfl (u := .int .i64 x.1) (u' := .int .i64 y.1) (by rw [o0]; rfl) (by rw [o0]; rfl) (by rw [t0, run_equalIn_int w 9998 3 .i64 .i64 _ _ und3]) ?_
  refine eqFields_cons (by decide +kernel) (by rw [t1]; exact und3) rfl (u := .int .i64 x.2.1) (u' := .int .i64 y.2.1) (by rw [o1]; rfl) (by rw [o1]; rfl) (by rw [t1, run_equalIn_int w 9998 3 .i64 .i64 _ _ und3]) ?_
  refine eqFields_cons (by decide +kernel) (by rw [t2]; exact und9) rfl (u := .string x.2.2.1) (u' := .string y.2.2.1) (by rw [o2]; rfl) (by rw [o2]; rfl) (by rw [t2, run_equalIn_string w 9998 9 _ _ und9]) ?_
  simp [Op.eqFields]
theorem guard36 : Try.prog.eqGuardType Try.prog.depth 36 = false := by kernel_rfl
theorem fields36 : Try.prog.underlying 36 = some (.struct (Try.prog.fieldsOf 36)) := by kernel_rfl
theorem held36 : Try.prog.stoodInHeld 36 = false := by kernel_rfl
theorem pr_neq36 {x' y' : Operand} (x y : ValT) : PR Try.prog (binS .neq 36 x' y' (.agg (valF x).toArray) (.agg (valF y).toArray)) (.bool (!sameV x y)) := by
  intro w
  simp only [binS, Sem.run_bind, run_eqGuard_agg w .neq 36 x' y' (valF x).toArray (valF y).toArray guard36, Result.andThen_ok]
  rw [run_neq_struct, run_equalIn_agg w 9999 36 _ _ fields36 held36, run_eq36]
  rfl
theorem pr_eql36 {x' y' : Operand} (x y : ValT) : PR Try.prog (binS .eql 36 x' y' (.agg (valF x).toArray) (.agg (valF y).toArray)) (.bool (sameV x y)) := by
  intro w
  simp only [binS, Sem.run_bind, run_eqGuard_agg w .eql 36 x' y' (valF x).toArray (valF y).toArray guard36, Result.andThen_ok]
  rw [run_eql_struct, run_equalIn_agg w 9999 36 _ _ fields36 held36, run_eq36]
  rfl
theorem sameV_self (x : ValT) : sameV x x = true := by simp [sameV]
end Go.Proofs.Ytmnaggdhkggjhaa.E
/- The table of what was answered: in memory; Look, client. -/
namespace Go.Proofs.Ytmnaggdhkggjhaa.E
open Go Go.RowKit
set_option linter.unusedSimpArgs false
set_option linter.unusedVariables false

theorem und58 : Try.prog.underlying 58 = some (.map 3 63) := by kernel_rfl
theorem und66 : Try.prog.underlying 66 = some (.map 3 27) := by kernel_rfl
theorem und63 : Try.prog.underlying 63 = some (.pointer 68) := by kernel_rfl
theorem und30 : Try.prog.underlying 30 = some (.pointer 60) := by kernel_rfl
theorem one58 : oneB Try.prog 58 = true := by kernel_rfl
theorem one66 : oneB Try.prog 66 = true := by kernel_rfl
theorem one63 : oneB Try.prog 63 = true := by kernel_rfl
theorem z63 : (Try.prog.info? 63).bind (·.zero) = some (.pointer none) := by kernel_rfl
theorem t0 : fofs Try.prog 60 0 = some (0, 1) := by kernel_rfl
theorem k0 : fofs Try.prog 68 0 = some (0, 1) := by kernel_rfl
theorem k1 : fofs Try.prog 68 1 = some (1, 1) := by kernel_rfl
/-- A reply that is kept. -/
structure Rp where
  R : Rep
  p : Value
  vs : List ValT
def Rp.val (m : Rp) : Value := .agg (m.R.cells m.p (.slice none 0 0))
structure Cli where
  gc : Nat
  br : Nat
  fl : Int
  l : List (Int × Rp)
structure RpAt (c : Nat → Nat) (x : Nat) (w : World) (m : Rp) : Prop where
  own : OwnS 3 36 w m.p m.vs.length (m.vs.flatMap valF)
  hue : InC c x m.p
  ok : ∀ v ∈ m.vs, valOk v
  len : m.vs.length ≤ 1000
structure CliAt (c : Nat → Nat) (x : Nat) (w : World) (C : Cli) : Prop where
  hue : c C.gc = x
  huem : c C.br = x
  blk : Blk w C.gc 68 #[.int .i64 C.fl, .map (some C.br)]
  map : MapI w C.br (C.l.map fun p => (p.1, p.2.val))
  el : ∀ p ∈ C.l, RpAt c x w p.2
/-- The colour of a client's objects. -/
def hueC (hu : Nat) (id : Int) : Nat := (id.toNat + 1) * 1000 + hu
/-- The blocks of a table's colours. -/
def Dh (hu : Nat) (c : Nat → Nat) : Nat → Prop := fun k => c k % 1000 = hu
theorem hueC_mod {hu : Nat} (h : hu < 1000) (id : Int) : hueC hu id % 1000 = hu := by unfold hueC; omega
theorem hueC_ne (hu : Nat) (id : Int) : hueC hu id ≠ hu := by unfold hueC; omega
theorem hueC_inj {hu : Nat} {a b : Int} (ha : 0 ≤ a) (hb : 0 ≤ b) (h : hueC hu a = hueC hu b) : a = b := by unfold hueC at h; omega
theorem Turns.stepH {hu : Nat} {c c1 : Nat → Nat} {w w1 w2 : World} (h : Turns (Dh hu c) w w1) (hc : ∀ k, k < w.heap.size → c1 k = c k) (k : Turns (Dh hu c1) w1 w2) : Turns (Dh hu c) w w2 :=
  h.trans (k.mono fun j _ hj => by
    rcases Nat.lt_or_ge j w.heap.size with hlt | hge
    · exact .inl (by rw [Dh, ← hc j hlt]; exact hj)
    · exact .inr hge)
structure TabAt (hu : Nat) (c : Nat → Nat) (w : World) (g bm : Nat) (T : List (Int × Cli)) : Prop where
  hh : 0 < hu ∧ hu < 1000
  hue : c g = hu
  huem : c bm = hu
  blk : Blk w g 60 #[.map (some bm)]
  map : MapI w bm (T.map fun p => (p.1, .pointer (some ⟨p.2.gc, 0, none⟩)))
  el : ∀ p ∈ T, 0 ≤ p.1 ∧ CliAt c (hueC hu p.1) w p.2
def TabC (hu : Nat) (c : Nat → Nat) (w : World) (g : Nat) (T : List (Int × Cli)) : Prop := ∃ bm, TabAt hu c w g bm T
theorem rVal_all : ∀ (w w' : World) (us : List Value) (x : ValT), rVal w us x → rVal w' us x := fun _ _ _ _ h => h
section
variable {hu : Nat} {c c' : Nat → Nat} {x : Nat} {w w' : World} {m : Rp} {C : Cli} {g bm : Nat} {T : List (Int × Cli)}
theorem RpAt.turns {F : Nat → Prop} (h : RpAt c x w m) (hT : Turns F w w') (hF : ∀ k, m.p.ownBlock = some k → ¬ F k) : RpAt c x w' m := ⟨h.own.turns hT hF, h.hue, h.ok, h.len⟩
theorem RpAt.vals (h : RpAt c x w m) : Vals w [m.p] m.vs := h.own.rd (fun _ => rfl) fun p hp => rVal_of (h.ok p hp)
theorem RpAt.one (h : RpAt c x w m) : m.p.oneCell' = true := by obtain ⟨A, e⟩ := h.own.slice; rw [e]; rfl
theorem RpAt.re (h : RpAt c x w m) (hc : ∀ k, k < w.heap.size → c' k = c k) : RpAt c' x w m := ⟨h.own, h.hue.re (fun b hb => h.own.lt hb) hc, h.ok, h.len⟩
theorem CliAt.turns {F : Nat → Prop} (h : CliAt c x w C) (hT : Turns F w w') (hF : ∀ k, F k → c k ≠ x) : CliAt c x w' C :=
  ⟨h.hue, h.huem, h.blk.turns hT (fun e => hF _ e h.hue), h.map.turns hT (fun e => hF _ e h.huem), fun p hp => (h.el p hp).turns hT (fun k hk e => hF k e ((h.el p hp).hue k hk))⟩
theorem CliAt.re (h : CliAt c x w C) (hc : ∀ k, k < w.heap.size → c' k = c k) : CliAt c' x w C :=
  ⟨(hc _ h.blk.lt).trans h.hue, (hc _ h.map.lt).trans h.huem, h.blk, h.map, fun p hp => (h.el p hp).re hc⟩
theorem CliAt.below (h : CliAt c x w C) (hb : Below w.heap.size w w') : CliAt c x w' C := h.turns (F := fun _ => False) (Turns.of_below hb) (fun _ h => h.elim)
theorem TabAt.turns {F : Nat → Prop} (h : TabAt hu c w g bm T) (hT : Turns F w w') (hF : ∀ k, F k → c k % 1000 ≠ hu) : TabAt hu c w' g bm T :=
  ⟨h.hh, h.hue, h.huem, h.blk.turns hT (fun e => by have := hF g e; rw [h.hue, Nat.mod_eq_of_lt h.hh.2] at this; exact this rfl), h.map.turns hT (fun e => by have := hF bm e; rw [h.huem, Nat.mod_eq_of_lt h.hh.2] at this; exact this rfl),
    fun p hp => ⟨(h.el p hp).1, (h.el p hp).2.turns hT (fun k hk e => hF k hk (by rw [e, hueC_mod h.hh.2]))⟩⟩
theorem TabAt.below (h : TabAt hu c w g bm T) (hb : Below w.heap.size w w') : TabAt hu c w' g bm T := h.turns (F := fun _ => False) (Turns.of_below hb) (fun _ h => h.elim)
theorem TabAt.re (h : TabAt hu c w g bm T) (hc : ∀ k, k < w.heap.size → c' k = c k) : TabAt hu c' w g bm T :=
  ⟨h.hh, (hc g h.blk.lt).trans h.hue, (hc bm h.map.lt).trans h.huem, h.blk, h.map, fun p hp => ⟨(h.el p hp).1, (h.el p hp).2.re hc⟩⟩
theorem TabC.turns {F : Nat → Prop} (h : TabC hu c w g T) (hT : Turns F w w') (hF : ∀ k, F k → c k % 1000 ≠ hu) : TabC hu c w' g T := by
  obtain ⟨b, h⟩ := h; exact ⟨b, h.turns hT hF⟩
theorem TabC.below (h : TabC hu c w g T) (hb : Below w.heap.size w w') : TabC hu c w' g T := by
  obtain ⟨b, h⟩ := h; exact ⟨b, h.below hb⟩
theorem TabC.re (h : TabC hu c w g T) (hc : ∀ k, k < w.heap.size → c' k = c k) : TabC hu c' w g T := by
  obtain ⟨b, h⟩ := h; exact ⟨b, h.re hc⟩
end
/-- What a look finds: the error; what is kept. -/
def badP (id n : Int) : Bool := !(decide (0 ≤ id ∧ id ≤ 1099511627776) && decide (1 ≤ n ∧ n ≤ 1099511627776))
def lookP (T : List (Int × Cli)) (id n : Int) : Int × Option Rp :=
  if badP id n then (1, none) else match getK id T with
    | none => (7, none)
    | some C => if n ≤ C.fl then (12, none) else match getK n C.l with
      | some m => (0, some m)
      | none => (7, none)
/-- A reply as it is told. -/
def toldR (o : Option Rp) : Rep := (o.map (·.R)).getD zeroRep
def toldV (o : Option Rp) : List ValT := (o.map (·.vs)).getD []
def LookPost (w : World) (o : Int × Option Rp) (r : Value) (w' : World) : Prop :=
  ∃ p', r = .tuple #[.agg ((toldR o.2).cells p' (.slice none 0 0)), .int .i64 o.1] ∧ OwnS 3 36 w' p' (toldV o.2).length ((toldV o.2).flatMap valF) ∧ Fresh w.heap.size p' ∧ Below w.heap.size w w'
theorem Look_tab {hu : Nat} (c : Nat → Nat) (w : World) (g : Nat) (T : List (Int × Cli)) (id n : Int) (h : TabC hu c w g T) :
    CallP Try.prog 12 #[.pointer (some ⟨g, 0, none⟩), .int .i64 id, .int .i64 n] (LookPost w (lookP T id n)) w := by
  obtain ⟨bm, h⟩ := h
  refine ⟨S12.calls _ _ _ _ _ ?_⟩
  unfold S12
  refine al z27 ?_
  have hR : Blk (w.alloc (.cells (Value.agg (zeroRep.cells (.slice none 0 0) (.slice none 0 0))).cells 27)) w.heap.size 27 (zeroRep.cells (.slice none 0 0) (.slice none 0 0)) := Blk.new w 27 _
  have ha := (Below.refl w.heap.size w).alloc (Nat.le_refl _) (.cells (Value.agg (zeroRep.cells (.slice none 0 0) (.slice none 0 0))).cells 27)
  generalize w.alloc (.cells (Value.agg (zeroRep.cells (.slice none 0 0) (.slice none 0 0))).cells 27) = w1 at *
  have h1 := h.below ha
  have hgl := hR.lt
  have tell : ∀ {w' : World} (e : Int), Below w.heap.size w w' →
      LookPost w (e, none) (.tuple #[.agg (zeroRep.cells (.slice none 0 0) (.slice none 0 0)), .int .i64 e]) (w'.setRow w.heap.size (zeroRep.cells (.slice none 0 0) (.slice none 0 0))) :=
    fun e hb => ⟨.slice none 0 0, rfl, OwnS.nil 3 36 _, Fresh.nil _, below_setRow hb (Nat.le_refl _) _⟩
  refine (within_spec id 0 w1).mono ?_
  rintro _ _ ⟨rfl, rfl⟩
  by_cases hid : 0 ≤ id ∧ id ≤ 1099511627776
  · rw [decide_eq_true hid]
    (repeat with_reducible first | refine nck ?_ | refine cdT ?_ | refine cdF ?_ | refine gdY ?_ | refine gdFT ?_ | refine gdTF ?_ | refine gdU ?_ | refine gaY ?_ | refine gaFT ?_ | refine gaTF ?_ | refine pickT ?_ | refine pickF ?_ | refine bi_lss_t (by omega) ?_ | refine bi_lss_f (by omega) ?_ | refine bi_add64 (by omega) ?_ | refine bi_sub64 (by omega) ?_ | refine bi_eql_t (by omega) ?_ | refine bi_eql_f (by omega) ?_ | refine bi_neq_t (by omega) ?_ | refine bi_neq_f (by omega) ?_ | refine bi_gtr_t (by omega) ?_ | refine bi_gtr_f (by omega) ?_ | refine bi_leq_t (by omega) ?_ | refine bi_leq_f (by omega) ?_ | refine bi_geq_t (by omega) ?_ | refine bi_geq_f (by omega) ?_ | refine bi_xt0 ?_ | refine bi_xt1 ?_ | refine bi_xt2 ?_ | refine bi_xt3 ?_ | refine bi_T ?_ | refine bi_F ?_ | refine bi_not ?_ | refine bi_and ?_ | refine bi_or ?_ | refine bi_xor ?_ | refine bi_shr (by omega) (by decide) ?_ | refine bi_shl (by omega) (by decide) ?_ | refine bi_quo64 (by omega) ?_ | refine bi_rem64 (by omega) ?_ | refine bi_mul64 (by omega) ?_ | refine bi_neg ?_ | refine bi_un_xor32 ?_ | refine bi_add ?_ | refine bi_sub ?_ | refine bi_mul ?_ | refine bi_quo (by decide) ?_ | refine bi_rem (by decide) ?_)
    refine (within_spec n 1 w1).mono ?_
    rintro _ _ ⟨rfl, rfl⟩
    by_cases hn : 1 ≤ n ∧ n ≤ 1099511627776
    · have hbad : badP id n = false := by simp [badP, hid, hn]
      rw [decide_eq_true hn]
      (repeat with_reducible first | refine nck ?_ | refine cdT ?_ | refine cdF ?_ | refine gdY ?_ | refine gdFT ?_ | refine gdTF ?_ | refine gdU ?_ | refine gaY ?_ | refine gaFT ?_ | refine gaTF ?_ | refine pickT ?_ | refine pickF ?_ | refine bi_lss_t (by omega) ?_ | refine bi_lss_f (by omega) ?_ | refine bi_add64 (by omega) ?_ | refine bi_sub64 (by omega) ?_ | refine bi_eql_t (by omega) ?_ | refine bi_eql_f (by omega) ?_ | refine bi_neq_t (by omega) ?_ | refine bi_neq_f (by omega) ?_ | refine bi_gtr_t (by omega) ?_ | refine bi_gtr_f (by omega) ?_ | refine bi_leq_t (by omega) ?_ | refine bi_leq_f (by omega) ?_ | refine bi_geq_t (by omega) ?_ | refine bi_geq_f (by omega) ?_ | refine bi_xt0 ?_ | refine bi_xt1 ?_ | refine bi_xt2 ?_ | refine bi_xt3 ?_ | refine bi_T ?_ | refine bi_F ?_ | refine bi_not ?_ | refine bi_and ?_ | refine bi_or ?_ | refine bi_xor ?_ | refine bi_shr (by omega) (by decide) ?_ | refine bi_shl (by omega) (by decide) ?_ | refine bi_quo64 (by omega) ?_ | refine bi_rem64 (by omega) ?_ | refine bi_mul64 (by omega) ?_ | refine bi_neg ?_ | refine bi_un_xor32 ?_ | refine bi_add ?_ | refine bi_sub ?_ | refine bi_mul ?_ | refine bi_quo (by decide) ?_ | refine bi_rem (by decide) ?_)
      refine JoinP.cut (fun vs w' => vs = [] ∧ lookP T id n = (7, none) ∧ Blk w' w.heap.size 27 (zeroRep.cells (.slice none 0 0) (.slice none 0 0)) ∧ Below w.heap.size w w') (fun J hJ => ?_) (fun vs w' hI => ?_)
      · have c0 : w1.cell? ⟨g, 0, none⟩ = some (.map (some bm)) := h1.blk.cell 0
        (repeat with_reducible first | refine fd t0 (by decide) ?_ | refine ld one58 c0 ?_ | refine nck ?_ | refine cdT ?_ | refine cdF ?_ | refine gdY ?_ | refine gdFT ?_ | refine gdTF ?_ | refine gdU ?_ | refine gaY ?_ | refine gaFT ?_ | refine gaTF ?_ | refine pickT ?_ | refine pickF ?_ | refine bi_lss_t (by omega) ?_ | refine bi_lss_f (by omega) ?_ | refine bi_add64 (by omega) ?_ | refine bi_sub64 (by omega) ?_ | refine bi_eql_t (by omega) ?_ | refine bi_eql_f (by omega) ?_ | refine bi_neq_t (by omega) ?_ | refine bi_neq_f (by omega) ?_ | refine bi_gtr_t (by omega) ?_ | refine bi_gtr_f (by omega) ?_ | refine bi_leq_t (by omega) ?_ | refine bi_leq_f (by omega) ?_ | refine bi_geq_t (by omega) ?_ | refine bi_geq_f (by omega) ?_ | refine bi_xt0 ?_ | refine bi_xt1 ?_ | refine bi_xt2 ?_ | refine bi_xt3 ?_ | refine bi_T ?_ | refine bi_F ?_ | refine bi_not ?_ | refine bi_and ?_ | refine bi_or ?_ | refine bi_xor ?_ | refine bi_shr (by omega) (by decide) ?_ | refine bi_shl (by omega) (by decide) ?_ | refine bi_quo64 (by omega) ?_ | refine bi_rem64 (by omega) ?_ | refine bi_mul64 (by omega) ?_ | refine bi_neg ?_ | refine bi_un_xor32 ?_ | refine bi_add ?_ | refine bi_sub ?_ | refine bi_mul ?_ | refine bi_quo (by decide) ?_ | refine bi_rem (by decide) ?_)
        refine lkq und58 und3 z63 h1.map ?_
        rw [getK_map (fun C : Cli => Value.pointer (some ⟨C.gc, 0, none⟩))]
        cases hx : getK id T with
        | none =>
          simp only [Option.map_none, Option.getD_none]
          refine ofPR (pr_pnot und63) ?_
          simp only [Option.isSome_none]
          (repeat with_reducible first | refine nck ?_ | refine cdT ?_ | refine cdF ?_ | refine gdY ?_ | refine gdFT ?_ | refine gdTF ?_ | refine gdU ?_ | refine gaY ?_ | refine gaFT ?_ | refine gaTF ?_ | refine pickT ?_ | refine pickF ?_ | refine bi_lss_t (by omega) ?_ | refine bi_lss_f (by omega) ?_ | refine bi_add64 (by omega) ?_ | refine bi_sub64 (by omega) ?_ | refine bi_eql_t (by omega) ?_ | refine bi_eql_f (by omega) ?_ | refine bi_neq_t (by omega) ?_ | refine bi_neq_f (by omega) ?_ | refine bi_gtr_t (by omega) ?_ | refine bi_gtr_f (by omega) ?_ | refine bi_leq_t (by omega) ?_ | refine bi_leq_f (by omega) ?_ | refine bi_geq_t (by omega) ?_ | refine bi_geq_f (by omega) ?_ | refine bi_xt0 ?_ | refine bi_xt1 ?_ | refine bi_xt2 ?_ | refine bi_xt3 ?_ | refine bi_T ?_ | refine bi_F ?_ | refine bi_not ?_ | refine bi_and ?_ | refine bi_or ?_ | refine bi_xor ?_ | refine bi_shr (by omega) (by decide) ?_ | refine bi_shl (by omega) (by decide) ?_ | refine bi_quo64 (by omega) ?_ | refine bi_rem64 (by omega) ?_ | refine bi_mul64 (by omega) ?_ | refine bi_neg ?_ | refine bi_un_xor32 ?_ | refine bi_add ?_ | refine bi_sub ?_ | refine bi_mul ?_ | refine bi_quo (by decide) ?_ | refine bi_rem (by decide) ?_)
          refine hJ _ _ ⟨rfl, ?_, hR, ha⟩
          rw [lookP, hbad]
          simp [hx]
        | some C =>
          simp only [Option.map_some, Option.getD_some]
          refine ofPR (pr_pnot und63) ?_
          have hC := (h1.el _ (getK_mem _ _ _ hx)).2
          have e0 : w1.cell? ⟨C.gc, 0, none⟩ = some (.int .i64 C.fl) := hC.blk.cell 0
          have e1 : w1.cell? ⟨C.gc, 1, none⟩ = some (.map (some C.br)) := hC.blk.cell 1
          simp only [Option.isSome_some]
          (repeat with_reducible first | refine fd k0 (by decide) ?_ | refine ld one3 e0 ?_ | refine nck ?_ | refine cdT ?_ | refine cdF ?_ | refine gdY ?_ | refine gdFT ?_ | refine gdTF ?_ | refine gdU ?_ | refine gaY ?_ | refine gaFT ?_ | refine gaTF ?_ | refine pickT ?_ | refine pickF ?_ | refine bi_lss_t (by omega) ?_ | refine bi_lss_f (by omega) ?_ | refine bi_add64 (by omega) ?_ | refine bi_sub64 (by omega) ?_ | refine bi_eql_t (by omega) ?_ | refine bi_eql_f (by omega) ?_ | refine bi_neq_t (by omega) ?_ | refine bi_neq_f (by omega) ?_ | refine bi_gtr_t (by omega) ?_ | refine bi_gtr_f (by omega) ?_ | refine bi_leq_t (by omega) ?_ | refine bi_leq_f (by omega) ?_ | refine bi_geq_t (by omega) ?_ | refine bi_geq_f (by omega) ?_ | refine bi_xt0 ?_ | refine bi_xt1 ?_ | refine bi_xt2 ?_ | refine bi_xt3 ?_ | refine bi_T ?_ | refine bi_F ?_ | refine bi_not ?_ | refine bi_and ?_ | refine bi_or ?_ | refine bi_xor ?_ | refine bi_shr (by omega) (by decide) ?_ | refine bi_shl (by omega) (by decide) ?_ | refine bi_quo64 (by omega) ?_ | refine bi_rem64 (by omega) ?_ | refine bi_mul64 (by omega) ?_ | refine bi_neg ?_ | refine bi_un_xor32 ?_ | refine bi_add ?_ | refine bi_sub ?_ | refine bi_mul ?_ | refine bi_quo (by decide) ?_ | refine bi_rem (by decide) ?_)
          refine bi_leq_c (fun hfl => ?_) (fun hfl => ?_)
          · (repeat with_reducible first | refine nck ?_ | refine cdT ?_ | refine cdF ?_ | refine gdY ?_ | refine gdFT ?_ | refine gdTF ?_ | refine gdU ?_ | refine gaY ?_ | refine gaFT ?_ | refine gaTF ?_ | refine pickT ?_ | refine pickF ?_ | refine bi_lss_t (by omega) ?_ | refine bi_lss_f (by omega) ?_ | refine bi_add64 (by omega) ?_ | refine bi_sub64 (by omega) ?_ | refine bi_eql_t (by omega) ?_ | refine bi_eql_f (by omega) ?_ | refine bi_neq_t (by omega) ?_ | refine bi_neq_f (by omega) ?_ | refine bi_gtr_t (by omega) ?_ | refine bi_gtr_f (by omega) ?_ | refine bi_leq_t (by omega) ?_ | refine bi_leq_f (by omega) ?_ | refine bi_geq_t (by omega) ?_ | refine bi_geq_f (by omega) ?_ | refine bi_xt0 ?_ | refine bi_xt1 ?_ | refine bi_xt2 ?_ | refine bi_xt3 ?_ | refine bi_T ?_ | refine bi_F ?_ | refine bi_not ?_ | refine bi_and ?_ | refine bi_or ?_ | refine bi_xor ?_ | refine bi_shr (by omega) (by decide) ?_ | refine bi_shl (by omega) (by decide) ?_ | refine bi_quo64 (by omega) ?_ | refine bi_rem64 (by omega) ?_ | refine bi_mul64 (by omega) ?_ | refine bi_neg ?_ | refine bi_un_xor32 ?_ | refine bi_add ?_ | refine bi_sub ?_ | refine bi_mul ?_ | refine bi_quo (by decide) ?_ | refine bi_rem (by decide) ?_)
            refine bd (cells := zeroRep.cells (.slice none 0 0) (.slice none 0 0)) (by kernel_rfl) ?_
            refine stA hR (by exact sz27) (by rfl) (cellsR_one _ _ _ rfl rfl) ?_
            refine retA agg27 (hR.row _) (by exact sz27) ?_
            have hlk : lookP T id n = (12, none) := by rw [lookP, hbad]; simp [hx, hfl]
            rw [hlk]
            exact tell 12 ha
          · (repeat with_reducible first | refine fd k1 (by decide) ?_ | refine ld one66 e1 ?_ | refine nck ?_ | refine cdT ?_ | refine cdF ?_ | refine gdY ?_ | refine gdFT ?_ | refine gdTF ?_ | refine gdU ?_ | refine gaY ?_ | refine gaFT ?_ | refine gaTF ?_ | refine pickT ?_ | refine pickF ?_ | refine bi_lss_t (by omega) ?_ | refine bi_lss_f (by omega) ?_ | refine bi_add64 (by omega) ?_ | refine bi_sub64 (by omega) ?_ | refine bi_eql_t (by omega) ?_ | refine bi_eql_f (by omega) ?_ | refine bi_neq_t (by omega) ?_ | refine bi_neq_f (by omega) ?_ | refine bi_gtr_t (by omega) ?_ | refine bi_gtr_f (by omega) ?_ | refine bi_leq_t (by omega) ?_ | refine bi_leq_f (by omega) ?_ | refine bi_geq_t (by omega) ?_ | refine bi_geq_f (by omega) ?_ | refine bi_xt0 ?_ | refine bi_xt1 ?_ | refine bi_xt2 ?_ | refine bi_xt3 ?_ | refine bi_T ?_ | refine bi_F ?_ | refine bi_not ?_ | refine bi_and ?_ | refine bi_or ?_ | refine bi_xor ?_ | refine bi_shr (by omega) (by decide) ?_ | refine bi_shl (by omega) (by decide) ?_ | refine bi_quo64 (by omega) ?_ | refine bi_rem64 (by omega) ?_ | refine bi_mul64 (by omega) ?_ | refine bi_neg ?_ | refine bi_un_xor32 ?_ | refine bi_add ?_ | refine bi_sub ?_ | refine bi_mul ?_ | refine bi_quo (by decide) ?_ | refine bi_rem (by decide) ?_)
            refine lkp und66 und3 z27 hC.map ?_
            rw [getK_map Rp.val]
            cases hy : getK n C.l with
            | none =>
              simp only [Option.map_none, Option.getD_none, Option.isSome_none]
              (repeat with_reducible first | refine nck ?_ | refine cdT ?_ | refine cdF ?_ | refine gdY ?_ | refine gdFT ?_ | refine gdTF ?_ | refine gdU ?_ | refine gaY ?_ | refine gaFT ?_ | refine gaTF ?_ | refine pickT ?_ | refine pickF ?_ | refine bi_lss_t (by omega) ?_ | refine bi_lss_f (by omega) ?_ | refine bi_add64 (by omega) ?_ | refine bi_sub64 (by omega) ?_ | refine bi_eql_t (by omega) ?_ | refine bi_eql_f (by omega) ?_ | refine bi_neq_t (by omega) ?_ | refine bi_neq_f (by omega) ?_ | refine bi_gtr_t (by omega) ?_ | refine bi_gtr_f (by omega) ?_ | refine bi_leq_t (by omega) ?_ | refine bi_leq_f (by omega) ?_ | refine bi_geq_t (by omega) ?_ | refine bi_geq_f (by omega) ?_ | refine bi_xt0 ?_ | refine bi_xt1 ?_ | refine bi_xt2 ?_ | refine bi_xt3 ?_ | refine bi_T ?_ | refine bi_F ?_ | refine bi_not ?_ | refine bi_and ?_ | refine bi_or ?_ | refine bi_xor ?_ | refine bi_shr (by omega) (by decide) ?_ | refine bi_shl (by omega) (by decide) ?_ | refine bi_quo64 (by omega) ?_ | refine bi_rem64 (by omega) ?_ | refine bi_mul64 (by omega) ?_ | refine bi_neg ?_ | refine bi_un_xor32 ?_ | refine bi_add ?_ | refine bi_sub ?_ | refine bi_mul ?_ | refine bi_quo (by decide) ?_ | refine bi_rem (by decide) ?_)
              refine newRep rfl rfl ?_
              intro w2 _ hb2
              (repeat with_reducible first | refine nck ?_ | refine cdT ?_ | refine cdF ?_ | refine gdY ?_ | refine gdFT ?_ | refine gdTF ?_ | refine gdU ?_ | refine gaY ?_ | refine gaFT ?_ | refine gaTF ?_ | refine pickT ?_ | refine pickF ?_ | refine bi_lss_t (by omega) ?_ | refine bi_lss_f (by omega) ?_ | refine bi_add64 (by omega) ?_ | refine bi_sub64 (by omega) ?_ | refine bi_eql_t (by omega) ?_ | refine bi_eql_f (by omega) ?_ | refine bi_neq_t (by omega) ?_ | refine bi_neq_f (by omega) ?_ | refine bi_gtr_t (by omega) ?_ | refine bi_gtr_f (by omega) ?_ | refine bi_leq_t (by omega) ?_ | refine bi_leq_f (by omega) ?_ | refine bi_geq_t (by omega) ?_ | refine bi_geq_f (by omega) ?_ | refine bi_xt0 ?_ | refine bi_xt1 ?_ | refine bi_xt2 ?_ | refine bi_xt3 ?_ | refine bi_T ?_ | refine bi_F ?_ | refine bi_not ?_ | refine bi_and ?_ | refine bi_or ?_ | refine bi_xor ?_ | refine bi_shr (by omega) (by decide) ?_ | refine bi_shl (by omega) (by decide) ?_ | refine bi_quo64 (by omega) ?_ | refine bi_rem64 (by omega) ?_ | refine bi_mul64 (by omega) ?_ | refine bi_neg ?_ | refine bi_un_xor32 ?_ | refine bi_add ?_ | refine bi_sub ?_ | refine bi_mul ?_ | refine bi_quo (by decide) ?_ | refine bi_rem (by decide) ?_)
              refine hJ _ _ ⟨rfl, ?_, hR.below' hb2, below_then ha hb2⟩
              rw [lookP, hbad]
              simp [hx, hfl, hy]
            | some m =>
              have hm := hC.el _ (getK_mem _ _ _ hy)
              simp only [Option.map_some, Option.getD_some, Option.isSome_some]
              (repeat with_reducible first | refine nck ?_ | refine cdT ?_ | refine cdF ?_ | refine gdY ?_ | refine gdFT ?_ | refine gdTF ?_ | refine gdU ?_ | refine gaY ?_ | refine gaFT ?_ | refine gaTF ?_ | refine pickT ?_ | refine pickF ?_ | refine bi_lss_t (by omega) ?_ | refine bi_lss_f (by omega) ?_ | refine bi_add64 (by omega) ?_ | refine bi_sub64 (by omega) ?_ | refine bi_eql_t (by omega) ?_ | refine bi_eql_f (by omega) ?_ | refine bi_neq_t (by omega) ?_ | refine bi_neq_f (by omega) ?_ | refine bi_gtr_t (by omega) ?_ | refine bi_gtr_f (by omega) ?_ | refine bi_leq_t (by omega) ?_ | refine bi_leq_f (by omega) ?_ | refine bi_geq_t (by omega) ?_ | refine bi_geq_f (by omega) ?_ | refine bi_xt0 ?_ | refine bi_xt1 ?_ | refine bi_xt2 ?_ | refine bi_xt3 ?_ | refine bi_T ?_ | refine bi_F ?_ | refine bi_not ?_ | refine bi_and ?_ | refine bi_or ?_ | refine bi_xor ?_ | refine bi_shr (by omega) (by decide) ?_ | refine bi_shl (by omega) (by decide) ?_ | refine bi_quo64 (by omega) ?_ | refine bi_rem64 (by omega) ?_ | refine bi_mul64 (by omega) ?_ | refine bi_neg ?_ | refine bi_un_xor32 ?_ | refine bi_add ?_ | refine bi_sub ?_ | refine bi_mul ?_ | refine bi_quo (by decide) ?_ | refine bi_rem (by decide) ?_)
              refine newRep hm.one rfl ?_
              intro w2 hM2 hb2
              have hb2' := below_then ha hb2
              (repeat with_reducible first | refine nck ?_ | refine cdT ?_ | refine cdF ?_ | refine gdY ?_ | refine gdFT ?_ | refine gdTF ?_ | refine gdU ?_ | refine gaY ?_ | refine gaFT ?_ | refine gaTF ?_ | refine pickT ?_ | refine pickF ?_ | refine bi_lss_t (by omega) ?_ | refine bi_lss_f (by omega) ?_ | refine bi_add64 (by omega) ?_ | refine bi_sub64 (by omega) ?_ | refine bi_eql_t (by omega) ?_ | refine bi_eql_f (by omega) ?_ | refine bi_neq_t (by omega) ?_ | refine bi_neq_f (by omega) ?_ | refine bi_gtr_t (by omega) ?_ | refine bi_gtr_f (by omega) ?_ | refine bi_leq_t (by omega) ?_ | refine bi_leq_f (by omega) ?_ | refine bi_geq_t (by omega) ?_ | refine bi_geq_f (by omega) ?_ | refine bi_xt0 ?_ | refine bi_xt1 ?_ | refine bi_xt2 ?_ | refine bi_xt3 ?_ | refine bi_T ?_ | refine bi_F ?_ | refine bi_not ?_ | refine bi_and ?_ | refine bi_or ?_ | refine bi_xor ?_ | refine bi_shr (by omega) (by decide) ?_ | refine bi_shl (by omega) (by decide) ?_ | refine bi_quo64 (by omega) ?_ | refine bi_rem64 (by omega) ?_ | refine bi_mul64 (by omega) ?_ | refine bi_neg ?_ | refine bi_un_xor32 ?_ | refine bi_add ?_ | refine bi_sub ?_ | refine bi_mul ?_ | refine bi_quo (by decide) ?_ | refine bi_rem (by decide) ?_)
              refine ldA agg27 hM2 (by exact sz27) ?_
              refine (copied_spec m.R m.p _ m.vs w2 (keeps_Vals _ _ _ _ hb2 hm.vals) rfl (by have := hm.len; simp only at this; omega)).mono ?_
              rintro _ w3 ⟨p', rfl, hop, hfp, hb3⟩
              have hb3' := below_then hb2' hb3
              have hR3 := (hR.below' hb2).below' hb3
              have h1p : p'.oneCell' = true := by obtain ⟨A, e⟩ := hop.slice; rw [e]; rfl
              refine stA hR3 (by exact sz27) (by rfl) (cellsR_one _ _ _ h1p rfl) ?_
              have hT4 : Turns (fun k => k = w.heap.size) w3 (w3.setRow w.heap.size (m.R.cells p' (.slice none 0 0))) := Turns.setRow (F := fun k => k = w.heap.size) (Turns.refl _ w3) (.inl rfl) _
              refine retA agg27 (hR3.row _) (by exact sz27) ?_
              have hlk : lookP T id n = (0, some m) := by rw [lookP, hbad]; simp [hx, hfl, hy]
              rw [hlk]
              have hs2 := hb2'.size
              have hsl := hM2.lt
              exact ⟨p', rfl, hop.turns hT4 (fun k hk he => by have := hfp k hk; omega), fun k hk => by have := hfp k hk; omega, below_setRow hb3' (Nat.le_refl _) _⟩
      · obtain ⟨rfl, hlk, hB, hb⟩ := hI
        refine bd (cells := zeroRep.cells (.slice none 0 0) (.slice none 0 0)) (by kernel_rfl) ?_
        refine stA hB (by exact sz27) (by rfl) (cellsR_one _ _ _ rfl rfl) ?_
        refine retA agg27 (hB.row _) (by exact sz27) ?_
        rw [hlk]
        exact tell 7 hb
    · have hbad : badP id n = true := by simp [badP, hid, hn]
      rw [decide_eq_false hn]
      (repeat with_reducible first | refine nck ?_ | refine cdT ?_ | refine cdF ?_ | refine gdY ?_ | refine gdFT ?_ | refine gdTF ?_ | refine gdU ?_ | refine gaY ?_ | refine gaFT ?_ | refine gaTF ?_ | refine pickT ?_ | refine pickF ?_ | refine bi_lss_t (by omega) ?_ | refine bi_lss_f (by omega) ?_ | refine bi_add64 (by omega) ?_ | refine bi_sub64 (by omega) ?_ | refine bi_eql_t (by omega) ?_ | refine bi_eql_f (by omega) ?_ | refine bi_neq_t (by omega) ?_ | refine bi_neq_f (by omega) ?_ | refine bi_gtr_t (by omega) ?_ | refine bi_gtr_f (by omega) ?_ | refine bi_leq_t (by omega) ?_ | refine bi_leq_f (by omega) ?_ | refine bi_geq_t (by omega) ?_ | refine bi_geq_f (by omega) ?_ | refine bi_xt0 ?_ | refine bi_xt1 ?_ | refine bi_xt2 ?_ | refine bi_xt3 ?_ | refine bi_T ?_ | refine bi_F ?_ | refine bi_not ?_ | refine bi_and ?_ | refine bi_or ?_ | refine bi_xor ?_ | refine bi_shr (by omega) (by decide) ?_ | refine bi_shl (by omega) (by decide) ?_ | refine bi_quo64 (by omega) ?_ | refine bi_rem64 (by omega) ?_ | refine bi_mul64 (by omega) ?_ | refine bi_neg ?_ | refine bi_un_xor32 ?_ | refine bi_add ?_ | refine bi_sub ?_ | refine bi_mul ?_ | refine bi_quo (by decide) ?_ | refine bi_rem (by decide) ?_)
      refine bd (cells := zeroRep.cells (.slice none 0 0) (.slice none 0 0)) (by kernel_rfl) ?_
      refine stA hR (by exact sz27) (by rfl) (cellsR_one _ _ _ rfl rfl) ?_
      refine retA agg27 (hR.row _) (by exact sz27) ?_
      rw [show lookP T id n = (1, none) from by rw [lookP, if_pos hbad]]
      exact tell 1 ha
  · have hbad : badP id n = true := by simp [badP, hid]
    rw [decide_eq_false hid]
    (repeat with_reducible first | refine nck ?_ | refine cdT ?_ | refine cdF ?_ | refine gdY ?_ | refine gdFT ?_ | refine gdTF ?_ | refine gdU ?_ | refine gaY ?_ | refine gaFT ?_ | refine gaTF ?_ | refine pickT ?_ | refine pickF ?_ | refine bi_lss_t (by omega) ?_ | refine bi_lss_f (by omega) ?_ | refine bi_add64 (by omega) ?_ | refine bi_sub64 (by omega) ?_ | refine bi_eql_t (by omega) ?_ | refine bi_eql_f (by omega) ?_ | refine bi_neq_t (by omega) ?_ | refine bi_neq_f (by omega) ?_ | refine bi_gtr_t (by omega) ?_ | refine bi_gtr_f (by omega) ?_ | refine bi_leq_t (by omega) ?_ | refine bi_leq_f (by omega) ?_ | refine bi_geq_t (by omega) ?_ | refine bi_geq_f (by omega) ?_ | refine bi_xt0 ?_ | refine bi_xt1 ?_ | refine bi_xt2 ?_ | refine bi_xt3 ?_ | refine bi_T ?_ | refine bi_F ?_ | refine bi_not ?_ | refine bi_and ?_ | refine bi_or ?_ | refine bi_xor ?_ | refine bi_shr (by omega) (by decide) ?_ | refine bi_shl (by omega) (by decide) ?_ | refine bi_quo64 (by omega) ?_ | refine bi_rem64 (by omega) ?_ | refine bi_mul64 (by omega) ?_ | refine bi_neg ?_ | refine bi_un_xor32 ?_ | refine bi_add ?_ | refine bi_sub ?_ | refine bi_mul ?_ | refine bi_quo (by decide) ?_ | refine bi_rem (by decide) ?_)
    refine bd (cells := zeroRep.cells (.slice none 0 0) (.slice none 0 0)) (by kernel_rfl) ?_
    refine stA hR (by exact sz27) (by rfl) (cellsR_one _ _ _ rfl rfl) ?_
    refine retA agg27 (hR.row _) (by exact sz27) ?_
    rw [show lookP T id n = (1, none) from by rw [lookP, if_pos hbad]]
    exact tell 1 ha
end Go.Proofs.Ytmnaggdhkggjhaa.E
/- The client of a table; DeleteFunc, the least number, trim. -/
namespace Go.Proofs.Ytmnaggdhkggjhaa.E
open Go Go.Proofs Go.RowKit
set_option linter.unusedSimpArgs false
set_option linter.unusedVariables false

/-- What a call leaves: the table, and that nothing else has turned. -/
def LeftT (hu : Nat) (c : Nat → Nat) (w : World) (g : Nat) (T : List (Int × Cli)) (w' : World) : Prop := ∃ c', (∀ k, k < w.heap.size → c' k = c k) ∧ TabC hu c' w' g T ∧ Turns (Dh hu c) w w'
theorem New_tab (hu : Nat) (hh : 0 < hu ∧ hu < 1000) (c : Nat → Nat) (w : World) : CallP Try.prog 10 #[] (fun r w' => ∃ g c', r = .pointer (some ⟨g, 0, none⟩) ∧ (∀ k, k < w.heap.size → c' k = c k) ∧ TabC hu c' w' g [] ∧ Below w.heap.size w w') w := by
  refine ⟨S10.calls _ _ ?_⟩
  unfold S10
  refine mkm ?_
  intro w1 hm1 hb1
  refine bd (cells := #[.map (some w.heap.size)]) (by kernel_rfl) ?_
  refine bx ?_
  have hbl : Blk (w1.alloc (.cells (Value.agg #[.map (some w.heap.size)]).cells 60)) w1.heap.size 60 #[.map (some w.heap.size)] := Blk.new w1 60 _
  have ha := (Below.refl w1.heap.size w1).alloc (Nat.le_refl _) (.cells (Value.agg #[.map (some w.heap.size)]).cells 60)
  have hlt := hm1.lt
  have hsz := hb1.size
  refine ⟨w1.heap.size, col c w.heap.size hu, rfl, col_lt _ _ _, ⟨w.heap.size, hh, col_ge _ _ _ hsz, col_ge _ _ _ (Nat.le_refl _), hbl, hm1.below ha, fun x hx => by simp at hx⟩, below_then hb1 ha⟩
theorem client_tab {hu : Nat} (c : Nat → Nat) (w : World) (g : Nat) (T : List (Int × Cli)) (id : Int) (h : TabC hu c w g T) (hid : 0 ≤ id ∧ id ≤ 9223372036854775807) (hT : T.length < 1000000) :
    CallP Try.prog 26 #[.pointer (some ⟨g, 0, none⟩), .int .i64 id] (fun r w' => ∃ (C : Cli) (T' : List (Int × Cli)), r = .pointer (some ⟨C.gc, 0, none⟩) ∧ getK id T' = some C ∧ (match getK id T with | some C0 => T' = T ∧ C = C0 | none => T' = T ++ [(id, C)] ∧ C.fl = 0 ∧ C.l = []) ∧ LeftT hu c w g T' w') w := by
  obtain ⟨bm, h⟩ := h
  refine ⟨S26.calls _ _ _ _ ?_⟩
  unfold S26
  have c0 : w.cell? ⟨g, 0, none⟩ = some (.map (some bm)) := h.blk.cell 0
  refine JoinP.cut (fun vs w' => ∃ (C : Cli) (T' : List (Int × Cli)), getK id T' = some C ∧ (match getK id T with | some C0 => T' = T ∧ C = C0 | none => T' = T ++ [(id, C)] ∧ C.fl = 0 ∧ C.l = []) ∧ ∃ c', (∀ k, k < w.heap.size → c' k = c k) ∧ TabAt hu c' w' g bm T' ∧ Turns (Dh hu c) w w') (fun J hJ => ?_) (fun vs w' hI => ?_)
  · (repeat with_reducible first | refine fd t0 (by decide) ?_ | refine ld one58 c0 ?_ | refine nck ?_ | refine cdT ?_ | refine cdF ?_ | refine gdY ?_ | refine gdFT ?_ | refine gdTF ?_ | refine gdU ?_ | refine gaY ?_ | refine gaFT ?_ | refine gaTF ?_ | refine pickT ?_ | refine pickF ?_ | refine bi_lss_t (by omega) ?_ | refine bi_lss_f (by omega) ?_ | refine bi_add64 (by omega) ?_ | refine bi_sub64 (by omega) ?_ | refine bi_eql_t (by omega) ?_ | refine bi_eql_f (by omega) ?_ | refine bi_neq_t (by omega) ?_ | refine bi_neq_f (by omega) ?_ | refine bi_gtr_t (by omega) ?_ | refine bi_gtr_f (by omega) ?_ | refine bi_leq_t (by omega) ?_ | refine bi_leq_f (by omega) ?_ | refine bi_geq_t (by omega) ?_ | refine bi_geq_f (by omega) ?_ | refine bi_xt0 ?_ | refine bi_xt1 ?_ | refine bi_xt2 ?_ | refine bi_xt3 ?_ | refine bi_T ?_ | refine bi_F ?_ | refine bi_not ?_ | refine bi_and ?_ | refine bi_or ?_ | refine bi_xor ?_ | refine bi_shr (by omega) (by decide) ?_ | refine bi_shl (by omega) (by decide) ?_ | refine bi_quo64 (by omega) ?_ | refine bi_rem64 (by omega) ?_ | refine bi_mul64 (by omega) ?_ | refine bi_neg ?_ | refine bi_un_xor32 ?_ | refine bi_add ?_ | refine bi_sub ?_ | refine bi_mul ?_ | refine bi_quo (by decide) ?_ | refine bi_rem (by decide) ?_)
    refine lkq und58 und3 z63 h.map ?_
    rw [getK_map (fun C : Cli => Value.pointer (some ⟨C.gc, 0, none⟩))]
    cases hx : getK id T with
    | some C =>
      simp only [Option.map_some, Option.getD_some]
      refine ofPR (pr_pnil und63) ?_
      simp only [Option.isNone_some]
      (repeat with_reducible first | refine nck ?_ | refine cdT ?_ | refine cdF ?_ | refine gdY ?_ | refine gdFT ?_ | refine gdTF ?_ | refine gdU ?_ | refine gaY ?_ | refine gaFT ?_ | refine gaTF ?_ | refine pickT ?_ | refine pickF ?_ | refine bi_lss_t (by omega) ?_ | refine bi_lss_f (by omega) ?_ | refine bi_add64 (by omega) ?_ | refine bi_sub64 (by omega) ?_ | refine bi_eql_t (by omega) ?_ | refine bi_eql_f (by omega) ?_ | refine bi_neq_t (by omega) ?_ | refine bi_neq_f (by omega) ?_ | refine bi_gtr_t (by omega) ?_ | refine bi_gtr_f (by omega) ?_ | refine bi_leq_t (by omega) ?_ | refine bi_leq_f (by omega) ?_ | refine bi_geq_t (by omega) ?_ | refine bi_geq_f (by omega) ?_ | refine bi_xt0 ?_ | refine bi_xt1 ?_ | refine bi_xt2 ?_ | refine bi_xt3 ?_ | refine bi_T ?_ | refine bi_F ?_ | refine bi_not ?_ | refine bi_and ?_ | refine bi_or ?_ | refine bi_xor ?_ | refine bi_shr (by omega) (by decide) ?_ | refine bi_shl (by omega) (by decide) ?_ | refine bi_quo64 (by omega) ?_ | refine bi_rem64 (by omega) ?_ | refine bi_mul64 (by omega) ?_ | refine bi_neg ?_ | refine bi_un_xor32 ?_ | refine bi_add ?_ | refine bi_sub ?_ | refine bi_mul ?_ | refine bi_quo (by decide) ?_ | refine bi_rem (by decide) ?_)
      refine hJ _ _ ⟨C, T, hx, ?_, c, fun _ _ => rfl, h, Turns.refl _ _⟩
      rw [hx]
      exact ⟨rfl, rfl⟩
    | none =>
      simp only [Option.map_none, Option.getD_none]
      refine ofPR (pr_pnil und63) ?_
      simp only [Option.isNone_none]
      (repeat with_reducible first | refine fd t0 (by decide) ?_ | refine ld one58 c0 ?_ | refine nck ?_ | refine cdT ?_ | refine cdF ?_ | refine gdY ?_ | refine gdFT ?_ | refine gdTF ?_ | refine gdU ?_ | refine gaY ?_ | refine gaFT ?_ | refine gaTF ?_ | refine pickT ?_ | refine pickF ?_ | refine bi_lss_t (by omega) ?_ | refine bi_lss_f (by omega) ?_ | refine bi_add64 (by omega) ?_ | refine bi_sub64 (by omega) ?_ | refine bi_eql_t (by omega) ?_ | refine bi_eql_f (by omega) ?_ | refine bi_neq_t (by omega) ?_ | refine bi_neq_f (by omega) ?_ | refine bi_gtr_t (by omega) ?_ | refine bi_gtr_f (by omega) ?_ | refine bi_leq_t (by omega) ?_ | refine bi_leq_f (by omega) ?_ | refine bi_geq_t (by omega) ?_ | refine bi_geq_f (by omega) ?_ | refine bi_xt0 ?_ | refine bi_xt1 ?_ | refine bi_xt2 ?_ | refine bi_xt3 ?_ | refine bi_T ?_ | refine bi_F ?_ | refine bi_not ?_ | refine bi_and ?_ | refine bi_or ?_ | refine bi_xor ?_ | refine bi_shr (by omega) (by decide) ?_ | refine bi_shl (by omega) (by decide) ?_ | refine bi_quo64 (by omega) ?_ | refine bi_rem64 (by omega) ?_ | refine bi_mul64 (by omega) ?_ | refine bi_neg ?_ | refine bi_un_xor32 ?_ | refine bi_add ?_ | refine bi_sub ?_ | refine bi_mul ?_ | refine bi_quo (by decide) ?_ | refine bi_rem (by decide) ?_)
      refine mkm ?_
      intro w1 hm1 hb1
      refine bd (cells := #[.int .i64 0, .map (some w.heap.size)]) (by kernel_rfl) ?_
      refine bx ?_
      have hbl : Blk (w1.alloc (.cells (Value.agg #[.int .i64 0, .map (some w.heap.size)]).cells 68)) w1.heap.size 68 #[.int .i64 0, .map (some w.heap.size)] := Blk.new w1 68 _
      have ha := (Below.refl w1.heap.size w1).alloc (Nat.le_refl _) (.cells (Value.agg #[.int .i64 0, .map (some w.heap.size)]).cells 68)
      have hm2 := hm1.below ha
      have hb2 := below_then hb1 ha
      have hs1 := hb1.size
      generalize hgc : w1.heap.size = gc at *
      generalize w1.alloc (.cells (Value.agg #[.int .i64 0, .map (some w.heap.size)]).cells 68) = w2 at *
      have h2 := (h.re (col_lt c w.heap.size (hueC hu id))).below hb2
      have hbl0 := h.map.lt
      have hgl0 := h.blk.lt
      have hl : (T.map fun p : Int × Cli => (p.1, Value.pointer (some ⟨p.2.gc, 0, none⟩))).length < maxLen := by rw [List.length_map]; simp only [maxLen]; omega
      refine mup und58 und3 h2.map (wf64 (by omega)) hl ?_
      intro w3 hm3 hT3
      have hcb : col c w.heap.size (hueC hu id) bm = hu := h2.huem
      have hgb : g ≠ bm := map_ne h.blk h.map
      have hC0 : CliAt (col c w.heap.size (hueC hu id)) (hueC hu id) w2 ⟨gc, w.heap.size, 0, []⟩ := ⟨col_ge _ _ _ hs1, col_ge _ _ _ (Nat.le_refl _), hbl, hm2, fun p hp => by simp at hp⟩
      have hnone : getK id (T.map fun p : Int × Cli => (p.1, Value.pointer (some ⟨p.2.gc, 0, none⟩))) = none := by
        rw [getK_map (fun C : Cli => Value.pointer (some ⟨C.gc, 0, none⟩)), hx]; rfl
      refine hJ _ _ ⟨⟨gc, w.heap.size, 0, []⟩, T ++ [(id, ⟨gc, w.heap.size, 0, []⟩)], getK_app _ _ _ hx, ?_, col c w.heap.size (hueC hu id), col_lt _ _ _, ⟨h2.hh, h2.hue, h2.huem, h2.blk.turns hT3 hgb, ?_, fun p hp => ?_⟩, ?_⟩
      · rw [hx]
        exact ⟨rfl, rfl, rfl⟩
      · rw [setK_new _ _ _ hnone] at hm3
        rw [List.map_append]
        exact hm3
      · rcases List.mem_append.1 hp with hp | hp
        · exact ⟨(h2.el p hp).1, (h2.el p hp).2.turns hT3 (fun k hk e => absurd (e.symm.trans (by rw [hk, hcb])) (hueC_ne hu _))⟩
        · simp only [List.mem_cons, List.not_mem_nil, or_false] at hp
          subst hp
          exact ⟨hid.1, hC0.turns hT3 (fun k hk e => absurd (e.symm.trans (by rw [hk, hcb])) (hueC_ne hu _))⟩
      · exact (Turns.of_below hb2).trans (hT3.mono fun k hk e => .inl (by rw [e]; show c bm % 1000 = hu; rw [h.huem, Nat.mod_eq_of_lt h.hh.2]))
  · obtain ⟨C, T', hx, hT', c', hc', h', hTu⟩ := hI
    have c0' : w'.cell? ⟨g, 0, none⟩ = some (.map (some bm)) := h'.blk.cell 0
    (repeat with_reducible first | refine fd t0 (by decide) ?_ | refine ld one58 c0' ?_ | refine nck ?_ | refine cdT ?_ | refine cdF ?_ | refine gdY ?_ | refine gdFT ?_ | refine gdTF ?_ | refine gdU ?_ | refine gaY ?_ | refine gaFT ?_ | refine gaTF ?_ | refine pickT ?_ | refine pickF ?_ | refine bi_lss_t (by omega) ?_ | refine bi_lss_f (by omega) ?_ | refine bi_add64 (by omega) ?_ | refine bi_sub64 (by omega) ?_ | refine bi_eql_t (by omega) ?_ | refine bi_eql_f (by omega) ?_ | refine bi_neq_t (by omega) ?_ | refine bi_neq_f (by omega) ?_ | refine bi_gtr_t (by omega) ?_ | refine bi_gtr_f (by omega) ?_ | refine bi_leq_t (by omega) ?_ | refine bi_leq_f (by omega) ?_ | refine bi_geq_t (by omega) ?_ | refine bi_geq_f (by omega) ?_ | refine bi_xt0 ?_ | refine bi_xt1 ?_ | refine bi_xt2 ?_ | refine bi_xt3 ?_ | refine bi_T ?_ | refine bi_F ?_ | refine bi_not ?_ | refine bi_and ?_ | refine bi_or ?_ | refine bi_xor ?_ | refine bi_shr (by omega) (by decide) ?_ | refine bi_shl (by omega) (by decide) ?_ | refine bi_quo64 (by omega) ?_ | refine bi_rem64 (by omega) ?_ | refine bi_mul64 (by omega) ?_ | refine bi_neg ?_ | refine bi_un_xor32 ?_ | refine bi_add ?_ | refine bi_sub ?_ | refine bi_mul ?_ | refine bi_quo (by decide) ?_ | refine bi_rem (by decide) ?_)
    refine lkq und58 und3 z63 h'.map ?_
    rw [getK_map (fun C : Cli => Value.pointer (some ⟨C.gc, 0, none⟩)), hx]
    exact ⟨C, T', rfl, hx, hT', c', hc', ⟨bm, h'⟩, hTu⟩
/-! ### trim -/
theorem call47 : callable Try.prog 47 = true := by kernel_rfl
theorem trim1_spec (k : Int) (R : Rep) (p q : Value) (b1 gc : Nat) (fl : Int) (br : Value) (w : World) (hb1 : Blk w b1 63 #[.pointer (some ⟨gc, 0, none⟩)]) (hgc : Blk w gc 68 #[.int .i64 fl, br]) :
    CallP Try.prog 47 #[.int .i64 k, .agg (R.cells p q), .pointer (some ⟨b1, 0, none⟩)] (fun r w' => r = .bool (decide (k ≤ fl)) ∧ Below w.heap.size w w') w := by
  refine ⟨S47.calls _ _ _ _ _ ?_⟩
  unfold S47
  refine bx ?_
  have ha := (Below.refl w.heap.size w).alloc (Nat.le_refl _) (.cells (Value.agg (R.cells p q)).cells 27)
  have e0 := (hb1.below' ha).cell 0
  have f0 := (hgc.below' ha).cell 0
  generalize w.alloc (.cells (Value.agg (R.cells p q)).cells 27) = w1 at *
  have e0' : w1.cell? ⟨b1, 0, none⟩ = some (.pointer (some ⟨gc, 0, none⟩)) := e0
  have f0' : w1.cell? ⟨gc, 0, none⟩ = some (.int .i64 fl) := f0
  (repeat with_reducible first | refine ld one63 e0' ?_ | refine fd k0 (by decide) ?_ | refine ld one3 f0' ?_ | refine nck ?_ | refine cdT ?_ | refine cdF ?_ | refine gdY ?_ | refine gdFT ?_ | refine gdTF ?_ | refine gdU ?_ | refine gaY ?_ | refine gaFT ?_ | refine gaTF ?_ | refine pickT ?_ | refine pickF ?_ | refine bi_lss_t (by omega) ?_ | refine bi_lss_f (by omega) ?_ | refine bi_add64 (by omega) ?_ | refine bi_sub64 (by omega) ?_ | refine bi_eql_t (by omega) ?_ | refine bi_eql_f (by omega) ?_ | refine bi_neq_t (by omega) ?_ | refine bi_neq_f (by omega) ?_ | refine bi_gtr_t (by omega) ?_ | refine bi_gtr_f (by omega) ?_ | refine bi_leq_t (by omega) ?_ | refine bi_leq_f (by omega) ?_ | refine bi_geq_t (by omega) ?_ | refine bi_geq_f (by omega) ?_ | refine bi_xt0 ?_ | refine bi_xt1 ?_ | refine bi_xt2 ?_ | refine bi_xt3 ?_ | refine bi_T ?_ | refine bi_F ?_ | refine bi_not ?_ | refine bi_and ?_ | refine bi_or ?_ | refine bi_xor ?_ | refine bi_shr (by omega) (by decide) ?_ | refine bi_shl (by omega) (by decide) ?_ | refine bi_quo64 (by omega) ?_ | refine bi_rem64 (by omega) ?_ | refine bi_mul64 (by omega) ?_ | refine bi_neg ?_ | refine bi_un_xor32 ?_ | refine bi_add ?_ | refine bi_sub ?_ | refine bi_mul ?_ | refine bi_quo (by decide) ?_ | refine bi_rem (by decide) ?_)
  refine bi_leq ?_
  exact ⟨rfl, ha⟩
/-- maps.DeleteFunc(c.replies, n <= c.floor) -/
theorem DelF_spec (c : Nat → Nat) (x : Nat) (C : Cli) (b1 : Nat) (w : World) (h : CliAt c x w C) (hb1 : Blk w b1 63 #[.pointer (some ⟨C.gc, 0, none⟩)]) :
    CallP Try.prog 46 #[.map (some C.br), .func (.func 47) #[] #[.pointer (some ⟨b1, 0, none⟩)]] (fun r w' => MapI w' C.br ((C.l.filter fun p => decide (C.fl < p.1)).map fun p => (p.1, p.2.val)) ∧ Turns (fun k => k = C.br) w w') w := by
  refine ⟨S46.calls _ _ _ _ ?_⟩
  unfold S46
  have hn1 := map_ne hb1 h.map
  have hn2 := map_ne h.blk h.map
  have hl1 := hb1.lt
  have hl2 := h.blk.lt
  have hl3 := h.map.lt
  have hnd : (C.l.map (·.1)).Nodup := by
    have := h.map.nodup
    rwa [List.map_map] at this
  refine rng und66 h.map ?_
  intro w1 hm1 hbw1
  have hTw1 : Turns (fun k => k = C.br) w w1 := Turns.of_below hbw1
  generalize hr : w.heap.size = r at *
  refine LoopP.inv0n (fun n w' => ∃ todo : List Int, todo.length = n ∧ MapR w' C.br r ((C.l.filter fun p => decide (p.1 ∈ todo ∨ C.fl < p.1)).map fun p => (p.1, p.2.val)) todo ∧ Turns (fun k => k = C.br) w w') (C.l.map (·.1)).length ⟨C.l.map (·.1), rfl, ?_, hTw1⟩ ?_
  · have : (C.l.filter fun p => decide (p.1 ∈ C.l.map (·.1) ∨ C.fl < p.1)) = C.l := List.filter_eq_self.2 fun p hp => by
      simp only [decide_eq_true_eq]
      exact .inl (List.mem_map.2 ⟨p, hp, rfl⟩)
    rw [this]
    rw [List.map_map] at hm1
    exact hm1
  · rintro n w2 ⟨todo, rfl, hm2, hT2⟩ J hJ
    refine nxt hm2 (fun e => ?_) ?_
    · (repeat with_reducible first | refine nck ?_ | refine cdT ?_ | refine cdF ?_ | refine gdY ?_ | refine gdFT ?_ | refine gdTF ?_ | refine gdU ?_ | refine gaY ?_ | refine gaFT ?_ | refine gaTF ?_ | refine pickT ?_ | refine pickF ?_ | refine bi_lss_t (by omega) ?_ | refine bi_lss_f (by omega) ?_ | refine bi_add64 (by omega) ?_ | refine bi_sub64 (by omega) ?_ | refine bi_eql_t (by omega) ?_ | refine bi_eql_f (by omega) ?_ | refine bi_neq_t (by omega) ?_ | refine bi_neq_f (by omega) ?_ | refine bi_gtr_t (by omega) ?_ | refine bi_gtr_f (by omega) ?_ | refine bi_leq_t (by omega) ?_ | refine bi_leq_f (by omega) ?_ | refine bi_geq_t (by omega) ?_ | refine bi_geq_f (by omega) ?_ | refine bi_xt0 ?_ | refine bi_xt1 ?_ | refine bi_xt2 ?_ | refine bi_xt3 ?_ | refine bi_T ?_ | refine bi_F ?_ | refine bi_not ?_ | refine bi_and ?_ | refine bi_or ?_ | refine bi_xor ?_ | refine bi_shr (by omega) (by decide) ?_ | refine bi_shl (by omega) (by decide) ?_ | refine bi_quo64 (by omega) ?_ | refine bi_rem64 (by omega) ?_ | refine bi_mul64 (by omega) ?_ | refine bi_neg ?_ | refine bi_un_xor32 ?_ | refine bi_add ?_ | refine bi_sub ?_ | refine bi_mul ?_ | refine bi_quo (by decide) ?_ | refine bi_rem (by decide) ?_)
      subst e
      have : (C.l.filter fun p => decide (p.1 ∈ ([] : List Int) ∨ C.fl < p.1)) = C.l.filter fun p => decide (C.fl < p.1) := List.filter_congr fun p _ => by simp
      rw [this] at hm2
      exact ⟨hm2.map, hT2⟩
    · intro k v w3 hk hget hm3 hT3 hent
      have hT3' : Turns (fun k => k = C.br) w w3 := hT2.trans (hT3.mono fun j _ e => .inr (by omega))
      rw [getK_map Rp.val] at hget
      obtain ⟨m, hgm, rfl⟩ := Option.map_eq_some_iff.1 hget
      have hmem : (k, m) ∈ C.l := (List.mem_filter.1 (getK_mem _ _ _ hgm)).1
      have hm := h.el _ hmem
      (repeat with_reducible first | refine nck ?_ | refine cdT ?_ | refine cdF ?_ | refine gdY ?_ | refine gdFT ?_ | refine gdTF ?_ | refine gdU ?_ | refine gaY ?_ | refine gaFT ?_ | refine gaTF ?_ | refine pickT ?_ | refine pickF ?_ | refine bi_lss_t (by omega) ?_ | refine bi_lss_f (by omega) ?_ | refine bi_add64 (by omega) ?_ | refine bi_sub64 (by omega) ?_ | refine bi_eql_t (by omega) ?_ | refine bi_eql_f (by omega) ?_ | refine bi_neq_t (by omega) ?_ | refine bi_neq_f (by omega) ?_ | refine bi_gtr_t (by omega) ?_ | refine bi_gtr_f (by omega) ?_ | refine bi_leq_t (by omega) ?_ | refine bi_leq_f (by omega) ?_ | refine bi_geq_t (by omega) ?_ | refine bi_geq_f (by omega) ?_ | refine bi_xt0 ?_ | refine bi_xt1 ?_ | refine bi_xt2 ?_ | refine bi_xt3 ?_ | refine bi_T ?_ | refine bi_F ?_ | refine bi_not ?_ | refine bi_and ?_ | refine bi_or ?_ | refine bi_xor ?_ | refine bi_shr (by omega) (by decide) ?_ | refine bi_shl (by omega) (by decide) ?_ | refine bi_quo64 (by omega) ?_ | refine bi_rem64 (by omega) ?_ | refine bi_mul64 (by omega) ?_ | refine bi_neg ?_ | refine bi_un_xor32 ?_ | refine bi_add ?_ | refine bi_sub ?_ | refine bi_mul ?_ | refine bi_quo (by decide) ?_ | refine bi_rem (by decide) ?_)
      refine lift hent ?_
      (repeat with_reducible first | refine nck ?_ | refine cdT ?_ | refine cdF ?_ | refine gdY ?_ | refine gdFT ?_ | refine gdTF ?_ | refine gdU ?_ | refine gaY ?_ | refine gaFT ?_ | refine gaTF ?_ | refine pickT ?_ | refine pickF ?_ | refine bi_lss_t (by omega) ?_ | refine bi_lss_f (by omega) ?_ | refine bi_add64 (by omega) ?_ | refine bi_sub64 (by omega) ?_ | refine bi_eql_t (by omega) ?_ | refine bi_eql_f (by omega) ?_ | refine bi_neq_t (by omega) ?_ | refine bi_neq_f (by omega) ?_ | refine bi_gtr_t (by omega) ?_ | refine bi_gtr_f (by omega) ?_ | refine bi_leq_t (by omega) ?_ | refine bi_leq_f (by omega) ?_ | refine bi_geq_t (by omega) ?_ | refine bi_geq_f (by omega) ?_ | refine bi_xt0 ?_ | refine bi_xt1 ?_ | refine bi_xt2 ?_ | refine bi_xt3 ?_ | refine bi_T ?_ | refine bi_F ?_ | refine bi_not ?_ | refine bi_and ?_ | refine bi_or ?_ | refine bi_xor ?_ | refine bi_shr (by omega) (by decide) ?_ | refine bi_shl (by omega) (by decide) ?_ | refine bi_quo64 (by omega) ?_ | refine bi_rem64 (by omega) ?_ | refine bi_mul64 (by omega) ?_ | refine bi_neg ?_ | refine bi_un_xor32 ?_ | refine bi_add ?_ | refine bi_sub ?_ | refine bi_mul ?_ | refine bi_quo (by decide) ?_ | refine bi_rem (by decide) ?_)
      refine newRep hm.one rfl ?_
      intro w4 hM4 hb4
      have hT4 := hT3'.then_below hb4
      have hm4 := hm3.below hb4
      refine ldA agg27 hM4 (by exact sz27) ?_
      refine cvl call47 ?_
      show CallP Try.prog 47 #[.int .i64 k, .agg (m.R.cells m.p (.slice none 0 0)), .pointer (some ⟨b1, 0, none⟩)] _ w4
      refine (trim1_spec k m.R m.p _ b1 C.gc C.fl _ w4 (hb1.turns hT4 hn1) (h.blk.turns hT4 hn2)).mono ?_
      rintro _ w5 ⟨rfl, hb5⟩
      have hT5 := hT4.then_below hb5
      have hm5 := hm4.below hb5
      have hlt : (todo.filter fun j => decide (j ≠ k)).length < todo.length := by
        rw [List.length_filter_lt_length_iff_exists]
        exact ⟨k, hk, by simp⟩
      have hnotin : k ∉ todo.filter fun j => decide (j ≠ k) := by simp
      refine CondP.dec (fun hle => ?_) (fun hle => ?_)
      · refine dltR und66 und3 hm5 hnotin ?_
        intro w6 hm6 hT6
        refine hJ _ _ hlt ⟨_, rfl, ?_, hT5.trans (hT6.mono fun j _ e => .inl e)⟩
        rw [delK_map Rp.val, delK_filter k _ ((List.Sublist.map _ List.filter_sublist).nodup hnd), List.filter_filter] at hm6
        have : (C.l.filter fun p => decide (p.1 ≠ k) && decide (p.1 ∈ todo ∨ C.fl < p.1)) = C.l.filter fun p => decide (p.1 ∈ (todo.filter fun j => decide (j ≠ k)) ∨ C.fl < p.1) := List.filter_congr fun p _ => by
          rw [← Bool.decide_and]
          refine decide_eq_decide.2 ?_
          rw [List.mem_filter]
          simp only [decide_eq_true_eq]
          constructor
          · rintro ⟨h1, h2 | h2⟩
            · exact .inl ⟨h2, h1⟩
            · exact .inr h2
          · rintro (⟨h1, h2⟩ | h2)
            · exact ⟨h2, .inl h1⟩
            · exact ⟨fun e => by omega, .inr h2⟩
        rw [this] at hm6
        exact hm6
      · refine hJ _ _ hlt ⟨_, rfl, ?_, hT5⟩
        have : (C.l.filter fun p => decide (p.1 ∈ todo ∨ C.fl < p.1)) = C.l.filter fun p => decide (p.1 ∈ (todo.filter fun j => decide (j ≠ k)) ∨ C.fl < p.1) := List.filter_congr fun p _ => by
          refine decide_eq_decide.2 ?_
          rw [List.mem_filter]
          simp only [decide_eq_true_eq]
          constructor
          · rintro (h1 | h2)
            · by_cases e : p.1 = k
              · exact .inr (by omega)
              · exact .inl ⟨h1, e⟩
            · exact .inr h2
          · rintro (⟨h1, _⟩ | h2)
            · exact .inl h1
            · exact .inr h2
        rw [this] at hm5
        exact hm5
end Go.Proofs.Ytmnaggdhkggjhaa.E
/- trim: the keys, the least one. -/
namespace Go.Proofs.Ytmnaggdhkggjhaa.E
open Go Go.Proofs Go.RowKit Go.Maps Go.Sort Go.Shelf
set_option linter.unusedSimpArgs false
set_option linter.unusedVariables false

/-- The map's words of the library's: whatever the values are. -/
theorem MapI.owns {w : World} {b : Nat} {l : List (Int × Value)} (h : MapI w b l) : ∃ D0 : DataW Unit, w.ownsMap Try.prog 3 (fun _ => some (.nil, [])) b l.length D0 ∧ (intKeys D0).Perm (l.map (·.1)) ∧ Maps.size D0 = l.length := by
  have hl := h
  obtain ⟨es, c, h1, h2, hst, hsz, hwf⟩ := h
  have hel : es.size = l.length := by have := congrArg List.length h2; simpa using this
  have hrd : ∀ x ∈ es.toList, ∃ k : Int, x.key = .int .i64 k ∧ WideElems.rd Try.prog 3 (fun _ => some ((.nil : DataW Unit), [])) x = some (.int .i64 k, .nil) := by
    intro x hx
    have hm : (x.key, x.val) ∈ es.toList.map (fun e => (e.key, e.val)) := List.mem_map.2 ⟨x, hx, rfl⟩
    rw [h2] at hm
    obtain ⟨p, hp, hpe⟩ := List.mem_map.1 hm
    have hk : x.key = .int .i64 p.1 := (congrArg Prod.fst hpe).symm
    refine ⟨p.1, hk, ?_⟩
    simp [WideElems.rd, hk, keyOf_int_mk und3 (hwf p hp)]
  refine ⟨.map ((es.toList.map (WideElems.rg Try.prog 3 fun _ => some (.nil, []))).foldr DataW.insert []), ⟨es, c, h1, ⟨hsz, hst, fun x hx => by obtain ⟨k, _, hk⟩ := hrd x hx; exact ⟨_, hk⟩⟩, by omega, rfl⟩, ?_, ?_⟩
  · have hp := (WideShapes.sorted_perm (es.toList.map (WideElems.rg Try.prog 3 fun _ => some ((.nil : DataW Unit), [])))).map fun p => Go.intOf p.1
    refine hp.trans ?_
    have e1 : (es.toList.map (WideElems.rg Try.prog 3 fun _ => some ((.nil : DataW Unit), []))).map (fun p => Go.intOf p.1) = l.map (·.1) := by
      have : (es.toList.map fun x => x.key) = l.map fun p => Value.int .i64 p.1 := by
        have := congrArg (List.map Prod.fst) h2
        simpa [List.map_map, Function.comp_def] using this
      have e2 : (es.toList.map (WideElems.rg Try.prog 3 fun _ => some ((.nil : DataW Unit), []))).map (fun p => Go.intOf p.1) = (es.toList.map fun x => x.key).map (fun v => match v with | .int _ n => n | _ => 0) := by
        rw [List.map_map, List.map_map]
        refine List.map_congr_left fun x hx => ?_
        obtain ⟨k, hk, hr⟩ := hrd x hx
        simp only [Function.comp]
        rw [WideElems.rg_of hr, hk]
        rfl
      rw [e2, this, List.map_map]
      rfl
    rw [e1]
  · have : (es.toList.map (WideElems.rg Try.prog 3 fun _ => some ((.nil : DataW Unit), []))).length = l.length := by rw [List.length_map, Array.length_toList, hel]
    rw [← this]
    exact length_sorted _
theorem keys_spec (b : Nat) (w : World) : CallP Try.prog 37 #[.map (some b)] (fun r w' => r = .func (.func 52) #[] #[.pointer (some ⟨w.heap.size, 0, none⟩)] ∧ w' = w.alloc (.cells #[.map (some b)] 66)) w := by
  have h : CallsIn Fence.wide 5 Try.prog 37 #[.map (some b)] w fun e w' => e = .returned (.func (.func 52) #[] #[.pointer (some ⟨w.heap.size, 0, none⟩)]) ∧ w' = w.alloc (.cells #[.map (some b)] 66) := AnyZI.keys_in keysA Fence.wide 5 trivial rfl (some b) w
  exact ⟨(callsIn_wide.1 h).mono fun e w' ⟨h1, h2⟩ => ⟨_, h1, rfl, h2⟩⟩
theorem collect_spec (b g : Nat) (l : List (Int × Value)) (w : World) (h : MapI w b l) (hg : w.cell? ⟨g, 0, none⟩ = some (.map (some b))) (hl : l.length ≤ 1000000) :
    CallP Try.prog 49 #[.func (.func 52) #[] #[.pointer (some ⟨g, 0, none⟩)]] (fun r w' => ∃ ss : List Int, ss.Perm (l.map (·.1)) ∧ Own 3 w' r (ss.map (Value.int .i64)) ∧ Fresh w.heap.size r ∧ Below w.heap.size w w') w := by
  obtain ⟨D0, hown, hperm, hsize⟩ := h.owns
  have hseq : SeqGives Fence.wide 3 Try.prog 52 #[.pointer (some ⟨g, 0, none⟩)] encZ (fun ss => ss.Perm (intKeys D0)) (Maps.size D0) w :=
    AnyZI.keys_gives (ρ := keysA_ren) { keysA with } Fence.wide _ trivial rfl (by omega) g b l.length D0 _ (World.block_lt_of_cell? _ _ hg) hg hown
  have cS := AnyZI.collect_in collectA Fence.wide 5 trivial trivial rfl (by omega) 52 #[.pointer (some ⟨g, 0, none⟩)] trivial (enters_of Try.func52 (by kernel_rfl) rfl) _ _ (by rw [hsize]; simp only [maxLen]; omega) (by rw [hsize]; omega) _ hseq
  change CallsIn _ _ Try.prog 49 _ _ _ at cS
  refine ⟨(callsIn_wide.1 cS).mono fun e w' ⟨v, ss, h1, hS, hrow, hnil, hb⟩ => ⟨v, h1, ss, hS.trans hperm, ?_, ?_, hb⟩⟩
  · refine ⟨by simp, ?_⟩
    rw [List.length_map]
    rcases hrow.2 with h | ⟨gb, cap, cur, rfl, hbase, hgb, r1, r2, r3, r4⟩
    · exact .inl h
    · exact .inr ⟨gb, cap, cur, rfl, Nat.zero_le _, hgb, r1, r2, r3, r4⟩
  · intro k hk
    rcases hrow.2 with ⟨rfl, _⟩ | ⟨gb, cap, cur, rfl, hbase, _⟩
    · cases hk
    · have : gb = k := by simpa [Value.ownBlock] using hk
      omega
theorem min_spec (v : Value) (ys : List Int) (w : World) (hv : Rd w v (ys.map (Value.int .i64))) (hne : ys ≠ []) (hl : ys.length ≤ 1000000) :
    CallP Try.prog 48 #[v] (fun r w' => ∃ m, r = .int .i64 m ∧ m ∈ ys ∧ (∀ y ∈ ys, m ≤ y) ∧ w = w') w := by
  obtain ⟨A, c, rfl, hc1, hc2⟩ := hv.slice
  have hlen : (ys.map (Value.int .i64)).length = ys.length := List.length_map _
  rw [hlen] at hv hc1 ⊢
  have h0 : 0 < ys.length := List.length_pos_iff.2 hne
  refine ⟨S48.calls _ _ _ ?_⟩
  unfold S48
  refine JoinP.cut (fun vs w' => vs = [] ∧ w = w') (fun J hJ => ?_) (fun vs w' hI => ?_)
  · refine ln und51 ?_
    (repeat with_reducible first | refine nck ?_ | refine cdT ?_ | refine cdF ?_ | refine gdY ?_ | refine gdFT ?_ | refine gdTF ?_ | refine gdU ?_ | refine gaY ?_ | refine gaFT ?_ | refine gaTF ?_ | refine pickT ?_ | refine pickF ?_ | refine bi_lss_t (by omega) ?_ | refine bi_lss_f (by omega) ?_ | refine bi_add64 (by omega) ?_ | refine bi_sub64 (by omega) ?_ | refine bi_eql_t (by omega) ?_ | refine bi_eql_f (by omega) ?_ | refine bi_neq_t (by omega) ?_ | refine bi_neq_f (by omega) ?_ | refine bi_gtr_t (by omega) ?_ | refine bi_gtr_f (by omega) ?_ | refine bi_leq_t (by omega) ?_ | refine bi_leq_f (by omega) ?_ | refine bi_geq_t (by omega) ?_ | refine bi_geq_f (by omega) ?_ | refine bi_xt0 ?_ | refine bi_xt1 ?_ | refine bi_xt2 ?_ | refine bi_xt3 ?_ | refine bi_T ?_ | refine bi_F ?_ | refine bi_not ?_ | refine bi_and ?_ | refine bi_or ?_ | refine bi_xor ?_ | refine bi_shr (by omega) (by decide) ?_ | refine bi_shl (by omega) (by decide) ?_ | refine bi_quo64 (by omega) ?_ | refine bi_rem64 (by omega) ?_ | refine bi_mul64 (by omega) ?_ | refine bi_neg ?_ | refine bi_un_xor32 ?_ | refine bi_add ?_ | refine bi_sub ?_ | refine bi_mul ?_ | refine bi_quo (by decide) ?_ | refine bi_rem (by decide) ?_)
    exact hJ _ _ ⟨rfl, rfl⟩
  · obtain ⟨rfl, rfl⟩ := hI
    obtain ⟨a, rfl, hca⟩ := Rd.atI hv 0 h0
    refine ix1 (i := 0) und51 sz3 h0 ?_
    (repeat with_reducible first | refine ld one3 hca ?_ | refine nck ?_ | refine cdT ?_ | refine cdF ?_ | refine gdY ?_ | refine gdFT ?_ | refine gdTF ?_ | refine gdU ?_ | refine gaY ?_ | refine gaFT ?_ | refine gaTF ?_ | refine pickT ?_ | refine pickF ?_ | refine bi_lss_t (by omega) ?_ | refine bi_lss_f (by omega) ?_ | refine bi_add64 (by omega) ?_ | refine bi_sub64 (by omega) ?_ | refine bi_eql_t (by omega) ?_ | refine bi_eql_f (by omega) ?_ | refine bi_neq_t (by omega) ?_ | refine bi_neq_f (by omega) ?_ | refine bi_gtr_t (by omega) ?_ | refine bi_gtr_f (by omega) ?_ | refine bi_leq_t (by omega) ?_ | refine bi_leq_f (by omega) ?_ | refine bi_geq_t (by omega) ?_ | refine bi_geq_f (by omega) ?_ | refine bi_xt0 ?_ | refine bi_xt1 ?_ | refine bi_xt2 ?_ | refine bi_xt3 ?_ | refine bi_T ?_ | refine bi_F ?_ | refine bi_not ?_ | refine bi_and ?_ | refine bi_or ?_ | refine bi_xor ?_ | refine bi_shr (by omega) (by decide) ?_ | refine bi_shl (by omega) (by decide) ?_ | refine bi_quo64 (by omega) ?_ | refine bi_rem64 (by omega) ?_ | refine bi_mul64 (by omega) ?_ | refine bi_neg ?_ | refine bi_un_xor32 ?_ | refine bi_add ?_ | refine bi_sub ?_ | refine bi_mul ?_ | refine bi_quo (by decide) ?_ | refine bi_rem (by decide) ?_)
    refine LoopP.inv2 (fun mv iv w' => ∃ (i : Nat) (m : Int), 1 ≤ i ∧ i ≤ ys.length ∧ iv = .int .i64 i ∧ mv = .int .i64 m ∧ m ∈ ys ∧ (∀ y ∈ ys.take i, m ≤ y) ∧ w = w') (fun _ iv _ => ys.length - (intOf iv).toNat)
      ⟨1, ys[0], Nat.le_refl _, h0, rfl, rfl, List.getElem_mem h0, fun y hy => ?_, rfl⟩ ?_
    · cases ys with
      | nil => simp at h0
      | cons y0 r => simp at hy; subst hy; simp
    rintro _ _ _ ⟨i, m, h1, hi, rfl, rfl, hm, hall, rfl⟩ J hJ
    dsimp only [List.headD_cons, List.tail_cons]
    refine ln und51 ?_
    refine bi_lss_c (fun h => ?_) (fun h => ?_)
    · have hi' : i < ys.length := by omega
      obtain ⟨a', ha', hca'⟩ := Rd.atI hv i hi'
      cases ha'
      (repeat with_reducible first | refine ix1 und51 sz3 hi' ?_ | refine ld one3 hca' ?_ | refine nck ?_ | refine cdT ?_ | refine cdF ?_ | refine gdY ?_ | refine gdFT ?_ | refine gdTF ?_ | refine gdU ?_ | refine gaY ?_ | refine gaFT ?_ | refine gaTF ?_ | refine pickT ?_ | refine pickF ?_ | refine bi_lss_t (by omega) ?_ | refine bi_lss_f (by omega) ?_ | refine bi_add64 (by omega) ?_ | refine bi_sub64 (by omega) ?_ | refine bi_eql_t (by omega) ?_ | refine bi_eql_f (by omega) ?_ | refine bi_neq_t (by omega) ?_ | refine bi_neq_f (by omega) ?_ | refine bi_gtr_t (by omega) ?_ | refine bi_gtr_f (by omega) ?_ | refine bi_leq_t (by omega) ?_ | refine bi_leq_f (by omega) ?_ | refine bi_geq_t (by omega) ?_ | refine bi_geq_f (by omega) ?_ | refine bi_xt0 ?_ | refine bi_xt1 ?_ | refine bi_xt2 ?_ | refine bi_xt3 ?_ | refine bi_T ?_ | refine bi_F ?_ | refine bi_not ?_ | refine bi_and ?_ | refine bi_or ?_ | refine bi_xor ?_ | refine bi_shr (by omega) (by decide) ?_ | refine bi_shl (by omega) (by decide) ?_ | refine bi_quo64 (by omega) ?_ | refine bi_rem64 (by omega) ?_ | refine bi_mul64 (by omega) ?_ | refine bi_neg ?_ | refine bi_un_xor32 ?_ | refine bi_add ?_ | refine bi_sub ?_ | refine bi_mul ?_ | refine bi_quo (by decide) ?_ | refine bi_rem (by decide) ?_)
      refine mnI ?_
      (repeat with_reducible first | refine nck ?_ | refine cdT ?_ | refine cdF ?_ | refine gdY ?_ | refine gdFT ?_ | refine gdTF ?_ | refine gdU ?_ | refine gaY ?_ | refine gaFT ?_ | refine gaTF ?_ | refine pickT ?_ | refine pickF ?_ | refine bi_lss_t (by omega) ?_ | refine bi_lss_f (by omega) ?_ | refine bi_add64 (by omega) ?_ | refine bi_sub64 (by omega) ?_ | refine bi_eql_t (by omega) ?_ | refine bi_eql_f (by omega) ?_ | refine bi_neq_t (by omega) ?_ | refine bi_neq_f (by omega) ?_ | refine bi_gtr_t (by omega) ?_ | refine bi_gtr_f (by omega) ?_ | refine bi_leq_t (by omega) ?_ | refine bi_leq_f (by omega) ?_ | refine bi_geq_t (by omega) ?_ | refine bi_geq_f (by omega) ?_ | refine bi_xt0 ?_ | refine bi_xt1 ?_ | refine bi_xt2 ?_ | refine bi_xt3 ?_ | refine bi_T ?_ | refine bi_F ?_ | refine bi_not ?_ | refine bi_and ?_ | refine bi_or ?_ | refine bi_xor ?_ | refine bi_shr (by omega) (by decide) ?_ | refine bi_shl (by omega) (by decide) ?_ | refine bi_quo64 (by omega) ?_ | refine bi_rem64 (by omega) ?_ | refine bi_mul64 (by omega) ?_ | refine bi_neg ?_ | refine bi_un_xor32 ?_ | refine bi_add ?_ | refine bi_sub ?_ | refine bi_mul ?_ | refine bi_quo (by decide) ?_ | refine bi_rem (by decide) ?_)
      refine hJ _ _ _ ⟨i + 1, min m ys[i], by omega, by omega, by simp, rfl, ?_, fun y hy => ?_, rfl⟩ (by simp [intOf]; omega)
      · rcases Int.min_def m ys[i] with e
        rw [e]
        split
        · exact hm
        · exact List.getElem_mem hi'
      · rw [List.take_succ_eq_append_getElem hi'] at hy
        rcases List.mem_append.1 hy with hy | hy
        · have := hall y hy; omega
        · simp only [List.mem_cons, List.not_mem_nil, or_false] at hy
          subst hy; omega
    · (repeat with_reducible first | refine nck ?_ | refine cdT ?_ | refine cdF ?_ | refine gdY ?_ | refine gdFT ?_ | refine gdTF ?_ | refine gdU ?_ | refine gaY ?_ | refine gaFT ?_ | refine gaTF ?_ | refine pickT ?_ | refine pickF ?_ | refine bi_lss_t (by omega) ?_ | refine bi_lss_f (by omega) ?_ | refine bi_add64 (by omega) ?_ | refine bi_sub64 (by omega) ?_ | refine bi_eql_t (by omega) ?_ | refine bi_eql_f (by omega) ?_ | refine bi_neq_t (by omega) ?_ | refine bi_neq_f (by omega) ?_ | refine bi_gtr_t (by omega) ?_ | refine bi_gtr_f (by omega) ?_ | refine bi_leq_t (by omega) ?_ | refine bi_leq_f (by omega) ?_ | refine bi_geq_t (by omega) ?_ | refine bi_geq_f (by omega) ?_ | refine bi_xt0 ?_ | refine bi_xt1 ?_ | refine bi_xt2 ?_ | refine bi_xt3 ?_ | refine bi_T ?_ | refine bi_F ?_ | refine bi_not ?_ | refine bi_and ?_ | refine bi_or ?_ | refine bi_xor ?_ | refine bi_shr (by omega) (by decide) ?_ | refine bi_shl (by omega) (by decide) ?_ | refine bi_quo64 (by omega) ?_ | refine bi_rem64 (by omega) ?_ | refine bi_mul64 (by omega) ?_ | refine bi_neg ?_ | refine bi_un_xor32 ?_ | refine bi_add ?_ | refine bi_sub ?_ | refine bi_mul ?_ | refine bi_quo (by decide) ?_ | refine bi_rem (by decide) ?_)
      have : i = ys.length := by omega
      subst this
      rw [List.take_length] at hall
      exact ⟨m, rfl, hm, hall, rfl⟩
/-- The least number; what is left behind the trimming. -/
def minK {α : Type} : List (Int × α) → Int
  | [] => 0
  | p :: r => r.foldl (fun a q => min a q.1) p.1
theorem minK_spec {α : Type} (l : List (Int × α)) (h : l ≠ []) : minK l ∈ l.map (·.1) ∧ ∀ y ∈ l.map (·.1), minK l ≤ y := by
  cases l with
  | nil => exact absurd rfl h
  | cons p r =>
    obtain ⟨h1, h2, h3⟩ := foldl_min r p.1
    refine ⟨?_, fun y hy => ?_⟩
    · rcases h1 with h1 | ⟨q, hq, h1⟩
      · exact List.mem_map.2 ⟨p, by simp, h1.symm⟩
      · exact List.mem_map.2 ⟨q, by simp [hq], h1.symm⟩
    · obtain ⟨q, hq, rfl⟩ := List.mem_map.1 hy
      rcases List.mem_cons.1 hq with rfl | hq
      · exact h2
      · exact h3 q hq
def shrink : Nat → Int → List (Int × Rp) → Int × List (Int × Rp)
  | 0, fl, l => (fl, l)
  | n + 1, fl, l => if 4 < l.length then shrink n (minK l) (delK (minK l) l) else (fl, l)
theorem shrink_small (n : Nat) (fl : Int) (l : List (Int × Rp)) (h : l.length ≤ 4) : shrink n fl l = (fl, l) := by
  cases n with
  | zero => rfl
  | succ n => rw [shrink, if_neg (by omega)]
def trimP (fl : Int) (l : List (Int × Rp)) : Int × List (Int × Rp) := shrink (l.filter fun p => decide (fl < p.1)).length fl (l.filter fun p => decide (fl < p.1))
theorem trim_spec (c : Nat → Nat) (x : Nat) (C : Cli) (w : World) (h : CliAt c x w C) (hl : C.l.length ≤ 1000000) :
    CallP Try.prog 28 #[.pointer (some ⟨C.gc, 0, none⟩)] (fun r w' => CliAt c x w' ⟨C.gc, C.br, (trimP C.fl C.l).1, (trimP C.fl C.l).2⟩ ∧ Turns (fun k => k = C.gc ∨ k = C.br) w w') w := by
  refine ⟨S28.calls _ _ _ ?_⟩
  unfold S28
  refine bx ?_
  have hB : Blk (w.alloc (.cells (Value.pointer (some ⟨C.gc, 0, none⟩)).cells 63)) w.heap.size 63 #[.pointer (some ⟨C.gc, 0, none⟩)] := Blk.new w 63 _
  have ha := (Below.refl w.heap.size w).alloc (Nat.le_refl _) (.cells (Value.pointer (some ⟨C.gc, 0, none⟩)).cells 63)
  have h1 := h.below ha
  have hgl := h.blk.lt
  have hbl := h.map.lt
  have hTa : Turns (fun k => k = C.gc ∨ k = C.br) w (w.alloc (.cells (Value.pointer (some ⟨C.gc, 0, none⟩)).cells 63)) := Turns.of_below ha
  generalize w.alloc (.cells (Value.pointer (some ⟨C.gc, 0, none⟩)).cells 63) = w1 at *
  have b0 : w1.cell? ⟨w.heap.size, 0, none⟩ = some (.pointer (some ⟨C.gc, 0, none⟩)) := hB.cell 0
  have e1 : w1.cell? ⟨C.gc, 1, none⟩ = some (.map (some C.br)) := h1.blk.cell 1
  (repeat with_reducible first | refine ld one63 b0 ?_ | refine fd k1 (by decide) ?_ | refine ld one66 e1 ?_ | refine nck ?_ | refine cdT ?_ | refine cdF ?_ | refine gdY ?_ | refine gdFT ?_ | refine gdTF ?_ | refine gdU ?_ | refine gaY ?_ | refine gaFT ?_ | refine gaTF ?_ | refine pickT ?_ | refine pickF ?_ | refine bi_lss_t (by omega) ?_ | refine bi_lss_f (by omega) ?_ | refine bi_add64 (by omega) ?_ | refine bi_sub64 (by omega) ?_ | refine bi_eql_t (by omega) ?_ | refine bi_eql_f (by omega) ?_ | refine bi_neq_t (by omega) ?_ | refine bi_neq_f (by omega) ?_ | refine bi_gtr_t (by omega) ?_ | refine bi_gtr_f (by omega) ?_ | refine bi_leq_t (by omega) ?_ | refine bi_leq_f (by omega) ?_ | refine bi_geq_t (by omega) ?_ | refine bi_geq_f (by omega) ?_ | refine bi_xt0 ?_ | refine bi_xt1 ?_ | refine bi_xt2 ?_ | refine bi_xt3 ?_ | refine bi_T ?_ | refine bi_F ?_ | refine bi_not ?_ | refine bi_and ?_ | refine bi_or ?_ | refine bi_xor ?_ | refine bi_shr (by omega) (by decide) ?_ | refine bi_shl (by omega) (by decide) ?_ | refine bi_quo64 (by omega) ?_ | refine bi_rem64 (by omega) ?_ | refine bi_mul64 (by omega) ?_ | refine bi_neg ?_ | refine bi_un_xor32 ?_ | refine bi_add ?_ | refine bi_sub ?_ | refine bi_mul ?_ | refine bi_quo (by decide) ?_ | refine bi_rem (by decide) ?_)
  refine mkf ?_
  refine (DelF_spec c x C w.heap.size w1 h1 hB).mono ?_
  rintro _ w2 ⟨hm2, hT2⟩
  have hne1 := map_ne hB h1.map
  have hne2 := map_ne h1.blk h1.map
  have hbk2 := h1.blk.turns hT2 hne2
  have hB2 := hB.turns hT2 hne1
  have hrows2 : ∀ p ∈ C.l, RpAt c x w2 p.2 := fun p hp => (h1.el p hp).turns hT2 (fun k hk e => own_nem (h1.el p hp).own h1.map (by rw [← e]; exact hk))
  have hC2 : CliAt c x w2 ⟨C.gc, C.br, C.fl, C.l.filter fun p => decide (C.fl < p.1)⟩ := ⟨h.hue, h.huem, hbk2, hm2, fun p hp => hrows2 p (List.mem_filter.1 hp).1⟩
  have hTw2 : Turns (fun k => k = C.gc ∨ k = C.br) w w2 := hTa.trans (hT2.mono fun k _ e => .inl (.inr e))
  have hfl : (C.l.filter fun p => decide (C.fl < p.1)).length ≤ C.l.length := List.length_filter_le _ _
  refine LoopP.inv0n (fun n w' => ∃ (fl : Int) (l : List (Int × Rp)), l.length = n ∧ n ≤ 1000000 ∧ shrink n fl l = trimP C.fl C.l ∧ CliAt c x w' ⟨C.gc, C.br, fl, l⟩ ∧ Blk w' w.heap.size 63 #[.pointer (some ⟨C.gc, 0, none⟩)] ∧ Turns (fun k => k = C.gc ∨ k = C.br) w w') _
    ⟨C.fl, C.l.filter fun p => decide (C.fl < p.1), rfl, by omega, rfl, hC2, hB2, hTw2⟩ ?_
  rintro n w3 ⟨fl, l, hn, hn6, hsh, hC3, hB3, hT3⟩ J hJ
  have b3 : w3.cell? ⟨w.heap.size, 0, none⟩ = some (.pointer (some ⟨C.gc, 0, none⟩)) := hB3.cell 0
  have f1 : w3.cell? ⟨C.gc, 1, none⟩ = some (.map (some C.br)) := hC3.blk.cell 1
  (repeat with_reducible first | refine ld one63 b3 ?_ | refine fd k1 (by decide) ?_ | refine ld one66 f1 ?_ | refine nck ?_ | refine cdT ?_ | refine cdF ?_ | refine gdY ?_ | refine gdFT ?_ | refine gdTF ?_ | refine gdU ?_ | refine gaY ?_ | refine gaFT ?_ | refine gaTF ?_ | refine pickT ?_ | refine pickF ?_ | refine bi_lss_t (by omega) ?_ | refine bi_lss_f (by omega) ?_ | refine bi_add64 (by omega) ?_ | refine bi_sub64 (by omega) ?_ | refine bi_eql_t (by omega) ?_ | refine bi_eql_f (by omega) ?_ | refine bi_neq_t (by omega) ?_ | refine bi_neq_f (by omega) ?_ | refine bi_gtr_t (by omega) ?_ | refine bi_gtr_f (by omega) ?_ | refine bi_leq_t (by omega) ?_ | refine bi_leq_f (by omega) ?_ | refine bi_geq_t (by omega) ?_ | refine bi_geq_f (by omega) ?_ | refine bi_xt0 ?_ | refine bi_xt1 ?_ | refine bi_xt2 ?_ | refine bi_xt3 ?_ | refine bi_T ?_ | refine bi_F ?_ | refine bi_not ?_ | refine bi_and ?_ | refine bi_or ?_ | refine bi_xor ?_ | refine bi_shr (by omega) (by decide) ?_ | refine bi_shl (by omega) (by decide) ?_ | refine bi_quo64 (by omega) ?_ | refine bi_rem64 (by omega) ?_ | refine bi_mul64 (by omega) ?_ | refine bi_neg ?_ | refine bi_un_xor32 ?_ | refine bi_add ?_ | refine bi_sub ?_ | refine bi_mul ?_ | refine bi_quo (by decide) ?_ | refine bi_rem (by decide) ?_)
  refine lnm und66 hC3.map ?_
  rw [List.length_map]
  refine bi_gtr_c (fun hbig => ?_) (fun hbig => ?_)
  · have hbig2 : (4 : Int) < (l.length : Int) := hbig
    have hbig' : 4 < l.length := by omega
    (repeat with_reducible first | refine nck ?_ | refine cdT ?_ | refine cdF ?_ | refine gdY ?_ | refine gdFT ?_ | refine gdTF ?_ | refine gdU ?_ | refine gaY ?_ | refine gaFT ?_ | refine gaTF ?_ | refine pickT ?_ | refine pickF ?_ | refine bi_lss_t (by omega) ?_ | refine bi_lss_f (by omega) ?_ | refine bi_add64 (by omega) ?_ | refine bi_sub64 (by omega) ?_ | refine bi_eql_t (by omega) ?_ | refine bi_eql_f (by omega) ?_ | refine bi_neq_t (by omega) ?_ | refine bi_neq_f (by omega) ?_ | refine bi_gtr_t (by omega) ?_ | refine bi_gtr_f (by omega) ?_ | refine bi_leq_t (by omega) ?_ | refine bi_leq_f (by omega) ?_ | refine bi_geq_t (by omega) ?_ | refine bi_geq_f (by omega) ?_ | refine bi_xt0 ?_ | refine bi_xt1 ?_ | refine bi_xt2 ?_ | refine bi_xt3 ?_ | refine bi_T ?_ | refine bi_F ?_ | refine bi_not ?_ | refine bi_and ?_ | refine bi_or ?_ | refine bi_xor ?_ | refine bi_shr (by omega) (by decide) ?_ | refine bi_shl (by omega) (by decide) ?_ | refine bi_quo64 (by omega) ?_ | refine bi_rem64 (by omega) ?_ | refine bi_mul64 (by omega) ?_ | refine bi_neg ?_ | refine bi_un_xor32 ?_ | refine bi_add ?_ | refine bi_sub ?_ | refine bi_mul ?_ | refine bi_quo (by decide) ?_ | refine bi_rem (by decide) ?_)
    have hdr : Below w3.heap.size w3 w3.drew := (Below.refl _ _).drew
    have sp : ∀ w', (Blk w' w.heap.size 63 #[.pointer (some ⟨C.gc, 0, none⟩)] ∧ Blk w' C.gc 68 #[.int .i64 fl, .map (some C.br)]) → w'.cell? ⟨w.heap.size, 0, none⟩ = some (.pointer (some ⟨C.gc, 0, none⟩)) := fun w' h => h.1.cell 0
    have sm : ∀ w', (Blk w' w.heap.size 63 #[.pointer (some ⟨C.gc, 0, none⟩)] ∧ Blk w' C.gc 68 #[.int .i64 fl, .map (some C.br)]) → w'.cell? ⟨C.gc, 1, none⟩ = some (.map (some C.br)) := fun w' h => h.2.cell 1
    refine draw (fun w' => Blk w' w.heap.size 63 #[.pointer (some ⟨C.gc, 0, none⟩)] ∧ Blk w' C.gc 68 #[.int .i64 fl, .map (some C.br)]) ⟨hB3.below' hdr, hC3.blk.below' hdr⟩ ?_
    (repeat with_reducible first | refine yl1 one63 sp ?_ | refine yfd k1 (by decide) ?_ | refine yl1 one66 sm ?_ | refine ynck ?_ | refine nck ?_ | refine cdT ?_ | refine cdF ?_ | refine gdY ?_ | refine gdFT ?_ | refine gdTF ?_ | refine gdU ?_ | refine gaY ?_ | refine gaFT ?_ | refine gaTF ?_ | refine pickT ?_ | refine pickF ?_ | refine yi_lss_t (by omega) ?_ | refine yi_lss_f (by omega) ?_ | refine yi_add64 (by omega) ?_ | refine yi_sub64 (by omega) ?_ | refine yi_eql_t (by omega) ?_ | refine yi_eql_f (by omega) ?_ | refine yi_neq_t (by omega) ?_ | refine yi_neq_f (by omega) ?_ | refine yi_gtr_t (by omega) ?_ | refine yi_gtr_f (by omega) ?_ | refine yi_leq_t (by omega) ?_ | refine yi_leq_f (by omega) ?_ | refine yi_geq_t (by omega) ?_ | refine yi_geq_f (by omega) ?_ | refine yi_xt0 ?_ | refine yi_xt1 ?_ | refine yi_xt2 ?_ | refine yi_xt3 ?_ | refine yi_T ?_ | refine yi_F ?_ | refine yi_not ?_ | refine yi_and ?_ | refine yi_or ?_ | refine yi_xor ?_ | refine yi_shr (by omega) (by decide) ?_ | refine yi_shl (by omega) (by decide) ?_ | refine yi_quo64 (by omega) ?_ | refine yi_rem64 (by omega) ?_ | refine yi_mul64 (by omega) ?_ | refine yi_neg ?_ | refine yi_un_xor32 ?_ | refine yi_add ?_ | refine yi_sub ?_ | refine yi_mul ?_ | refine yi_quo (by decide) ?_ | refine yi_rem (by decide) ?_)
    refine act ?_
    refine (keys_spec C.br w3.drew).mono ?_
    rintro _ w4 ⟨rfl, hw4⟩
    have hK : Blk w4 w3.drew.heap.size 66 #[.map (some C.br)] := by rw [hw4]; exact Blk.new _ 66 _
    have hb4 : Below w3.heap.size w3 w4 := by
      rw [hw4]
      exact below_then hdr ((Below.refl w3.drew.heap.size w3.drew).alloc (Nat.le_refl _) (.cells #[.map (some C.br)] 66))
    refine ⟨_, ⟨hB3.below' hb4, hC3.blk.below' hb4⟩, fun _ h => h, ?_⟩
    refine act ?_
    refine (collect_spec C.br w3.drew.heap.size _ w4 (hC3.map.below hb4) (hK.cell 0) (by rw [List.length_map]; show l.length ≤ _; omega)).mono ?_
    rintro r5 w5 ⟨ss, hss, hown, hfr, hb5⟩
    have hb5' := below_then hb4 hb5
    rw [List.map_map] at hss
    have hss' : ss.Perm (l.map (·.1)) := hss
    refine ⟨_, ⟨hB3.below' hb5', hC3.blk.below' hb5'⟩, fun _ h => h, ?_⟩
    have hlne : l ≠ [] := fun e => by rw [e] at hbig'; simp at hbig'
    have hsl : ss.length = l.length := by rw [hss'.length_eq, List.length_map]
    have hsne : ss ≠ [] := fun e => by rw [e] at hsl; simp at hsl; omega
    refine act ?_
    refine (min_spec _ ss w5 hown.rd hsne (by omega)).mono ?_
    rintro _ _ ⟨m, rfl, hm1, hm2', rfl⟩
    have hmm : m = minK l := by
      obtain ⟨q1, q2⟩ := minK_spec l hlne
      exact min_unique hss' hm1 hm2' q1 q2
    subst hmm
    refine ⟨_, ⟨hB3.below' hb5', hC3.blk.below' hb5'⟩, fun _ h => h, ?_⟩
    (repeat with_reducible first | refine yfd k0 (by decide) ?_ | refine ynck ?_ | refine nck ?_ | refine cdT ?_ | refine cdF ?_ | refine gdY ?_ | refine gdFT ?_ | refine gdTF ?_ | refine gdU ?_ | refine gaY ?_ | refine gaFT ?_ | refine gaTF ?_ | refine pickT ?_ | refine pickF ?_ | refine yi_lss_t (by omega) ?_ | refine yi_lss_f (by omega) ?_ | refine yi_add64 (by omega) ?_ | refine yi_sub64 (by omega) ?_ | refine yi_eql_t (by omega) ?_ | refine yi_eql_f (by omega) ?_ | refine yi_neq_t (by omega) ?_ | refine yi_neq_f (by omega) ?_ | refine yi_gtr_t (by omega) ?_ | refine yi_gtr_f (by omega) ?_ | refine yi_leq_t (by omega) ?_ | refine yi_leq_f (by omega) ?_ | refine yi_geq_t (by omega) ?_ | refine yi_geq_f (by omega) ?_ | refine yi_xt0 ?_ | refine yi_xt1 ?_ | refine yi_xt2 ?_ | refine yi_xt3 ?_ | refine yi_T ?_ | refine yi_F ?_ | refine yi_not ?_ | refine yi_and ?_ | refine yi_or ?_ | refine yi_xor ?_ | refine yi_shr (by omega) (by decide) ?_ | refine yi_shl (by omega) (by decide) ?_ | refine yi_quo64 (by omega) ?_ | refine yi_rem64 (by omega) ?_ | refine yi_mul64 (by omega) ?_ | refine yi_neg ?_ | refine yi_un_xor32 ?_ | refine yi_add ?_ | refine yi_sub ?_ | refine yi_mul ?_ | refine yi_quo (by decide) ?_ | refine yi_rem (by decide) ?_)
    have hC5 := hC3.below hb5'
    have hB5 := hB3.below' hb5'
    refine st (w := w5) sz3 rfl (by rw [hC5.blk.cell 0]; rfl) (hC5.blk.frozen 0) ?_
    have hT6 := Turns.setCell (F := fun k => k = C.gc) (p := ⟨C.gc, 0, none⟩) (Turns.refl _ w5) (.inl rfl) (.int .i64 (minK l))
    have hne5 : C.gc ≠ C.br := map_ne hC5.blk hC5.map
    have hnb5 : w.heap.size ≠ C.gc := by omega
    have hC6 : CliAt c x (w5.setCell ⟨C.gc, 0, none⟩ (.int .i64 (minK l))) ⟨C.gc, C.br, minK l, l⟩ :=
      ⟨h.hue, h.huem, hC5.blk.set_ 0 _, hC5.map.turns hT6 (fun e => hne5 e.symm), fun p hp => (hC5.el p hp).turns hT6 (fun k hk e => own_ne (hC5.el p hp).own hC5.blk (by decide) (by rw [← e]; exact hk))⟩
    have hB6 := hB5.turns hT6 hnb5
    have hT36 : Turns (fun k => k = C.gc ∨ k = C.br) w (w5.setCell ⟨C.gc, 0, none⟩ (.int .i64 (minK l))) := (hT3.then_below hb5').trans (hT6.mono fun k _ e => .inl (.inl e))
    generalize w5.setCell ⟨C.gc, 0, none⟩ (.int .i64 (minK l)) = w6 at *
    have hdr6 : Below w6.heap.size w6 w6.drew := (Below.refl _ _).drew
    have sp6 : ∀ w', (Blk w' w.heap.size 63 #[.pointer (some ⟨C.gc, 0, none⟩)] ∧ Blk w' C.gc 68 #[.int .i64 (minK l), .map (some C.br)]) → w'.cell? ⟨w.heap.size, 0, none⟩ = some (.pointer (some ⟨C.gc, 0, none⟩)) := fun w' h => h.1.cell 0
    have sm6 : ∀ w', (Blk w' w.heap.size 63 #[.pointer (some ⟨C.gc, 0, none⟩)] ∧ Blk w' C.gc 68 #[.int .i64 (minK l), .map (some C.br)]) → w'.cell? ⟨C.gc, 1, none⟩ = some (.map (some C.br)) := fun w' h => h.2.cell 1
    have sf6 : ∀ w', (Blk w' w.heap.size 63 #[.pointer (some ⟨C.gc, 0, none⟩)] ∧ Blk w' C.gc 68 #[.int .i64 (minK l), .map (some C.br)]) → w'.cell? ⟨C.gc, 0, none⟩ = some (.int .i64 (minK l)) := fun w' h => h.2.cell 0
    refine draw (fun w' => Blk w' w.heap.size 63 #[.pointer (some ⟨C.gc, 0, none⟩)] ∧ Blk w' C.gc 68 #[.int .i64 (minK l), .map (some C.br)]) ⟨hB6.below' hdr6, hC6.blk.below' hdr6⟩ ?_
    (repeat with_reducible first | refine yl1 one63 sp6 ?_ | refine yfd k1 (by decide) ?_ | refine yl1 one66 sm6 ?_ | refine yfd k0 (by decide) ?_ | refine yl1 one3 sf6 ?_ | refine ynck ?_ | refine nck ?_ | refine cdT ?_ | refine cdF ?_ | refine gdY ?_ | refine gdFT ?_ | refine gdTF ?_ | refine gdU ?_ | refine gaY ?_ | refine gaFT ?_ | refine gaTF ?_ | refine pickT ?_ | refine pickF ?_ | refine yi_lss_t (by omega) ?_ | refine yi_lss_f (by omega) ?_ | refine yi_add64 (by omega) ?_ | refine yi_sub64 (by omega) ?_ | refine yi_eql_t (by omega) ?_ | refine yi_eql_f (by omega) ?_ | refine yi_neq_t (by omega) ?_ | refine yi_neq_f (by omega) ?_ | refine yi_gtr_t (by omega) ?_ | refine yi_gtr_f (by omega) ?_ | refine yi_leq_t (by omega) ?_ | refine yi_leq_f (by omega) ?_ | refine yi_geq_t (by omega) ?_ | refine yi_geq_f (by omega) ?_ | refine yi_xt0 ?_ | refine yi_xt1 ?_ | refine yi_xt2 ?_ | refine yi_xt3 ?_ | refine yi_T ?_ | refine yi_F ?_ | refine yi_not ?_ | refine yi_and ?_ | refine yi_or ?_ | refine yi_xor ?_ | refine yi_shr (by omega) (by decide) ?_ | refine yi_shl (by omega) (by decide) ?_ | refine yi_quo64 (by omega) ?_ | refine yi_rem64 (by omega) ?_ | refine yi_mul64 (by omega) ?_ | refine yi_neg ?_ | refine yi_un_xor32 ?_ | refine yi_add ?_ | refine yi_sub ?_ | refine yi_mul ?_ | refine yi_quo (by decide) ?_ | refine yi_rem (by decide) ?_)
    have hC7 := hC6.below hdr6
    refine dlt und66 und3 hC7.map ?_
    intro w8 hm8 hT8
    rw [delK_map Rp.val] at hm8
    obtain ⟨q1, _⟩ := minK_spec l hlne
    obtain ⟨p0, hp0, hpe⟩ := List.mem_map.1 q1
    have hnd : (l.map (·.1)).Nodup := by
      have := hC3.map.nodup
      rwa [List.map_map] at this
    have hget : getK (minK l) l = some p0.2 := getK_of_mem hnd (by rw [← hpe]; exact hp0)
    have hlen := delK_len _ _ _ hget
    refine hJ (delK (minK l) l).length w8 (by omega) ⟨minK l, delK (minK l) l, rfl, by omega, ?_, ⟨h.hue, h.huem, hC7.blk.turns hT8 hne5, hm8, fun p hp => ?_⟩, (hB6.below' hdr6).turns hT8 (by omega), (hT36.then_below hdr6).trans (hT8.mono fun k _ e => .inl (.inr e))⟩
    · rw [← hsh, show n = (delK (minK l) l).length + 1 from by omega, shrink, if_pos hbig']
    · have hp' := delK_sub _ _ _ hp
      exact (hC7.el p hp').turns hT8 (fun k hk e => own_nem (hC7.el p hp').own hC7.map (by rw [← e]; exact hk))
  · have hbig2 : ¬ (4 : Int) < (l.length : Int) := hbig
    (repeat with_reducible first | refine nck ?_ | refine cdT ?_ | refine cdF ?_ | refine gdY ?_ | refine gdFT ?_ | refine gdTF ?_ | refine gdU ?_ | refine gaY ?_ | refine gaFT ?_ | refine gaTF ?_ | refine pickT ?_ | refine pickF ?_ | refine bi_lss_t (by omega) ?_ | refine bi_lss_f (by omega) ?_ | refine bi_add64 (by omega) ?_ | refine bi_sub64 (by omega) ?_ | refine bi_eql_t (by omega) ?_ | refine bi_eql_f (by omega) ?_ | refine bi_neq_t (by omega) ?_ | refine bi_neq_f (by omega) ?_ | refine bi_gtr_t (by omega) ?_ | refine bi_gtr_f (by omega) ?_ | refine bi_leq_t (by omega) ?_ | refine bi_leq_f (by omega) ?_ | refine bi_geq_t (by omega) ?_ | refine bi_geq_f (by omega) ?_ | refine bi_xt0 ?_ | refine bi_xt1 ?_ | refine bi_xt2 ?_ | refine bi_xt3 ?_ | refine bi_T ?_ | refine bi_F ?_ | refine bi_not ?_ | refine bi_and ?_ | refine bi_or ?_ | refine bi_xor ?_ | refine bi_shr (by omega) (by decide) ?_ | refine bi_shl (by omega) (by decide) ?_ | refine bi_quo64 (by omega) ?_ | refine bi_rem64 (by omega) ?_ | refine bi_mul64 (by omega) ?_ | refine bi_neg ?_ | refine bi_un_xor32 ?_ | refine bi_add ?_ | refine bi_sub ?_ | refine bi_mul ?_ | refine bi_quo (by decide) ?_ | refine bi_rem (by decide) ?_)
    rw [shrink_small n fl l (by omega)] at hsh
    rw [← hsh]
    exact ⟨hC3, hT3⟩
end Go.Proofs.Ytmnaggdhkggjhaa.E
/- record.Check; Keep; Floor. -/
namespace Go.Proofs.Ytmnaggdhkggjhaa.E
open Go Go.RowKit
set_option linter.unusedSimpArgs false
set_option linter.unusedVariables false

theorem when_spec (b : Bool) (e : Int) (w : World) : CallP Try.prog 41 #[.bool b, .int .i64 e] (fun r w' => r = .int .i64 (if b then e else 0) ∧ w = w') w := by
  refine ⟨S41.calls _ _ _ _ ?_⟩
  unfold S41
  cases b
  · (repeat with_reducible first | refine nck ?_ | refine cdT ?_ | refine cdF ?_ | refine gdY ?_ | refine gdFT ?_ | refine gdTF ?_ | refine gdU ?_ | refine gaY ?_ | refine gaFT ?_ | refine gaTF ?_ | refine pickT ?_ | refine pickF ?_ | refine bi_lss_t (by omega) ?_ | refine bi_lss_f (by omega) ?_ | refine bi_add64 (by omega) ?_ | refine bi_sub64 (by omega) ?_ | refine bi_eql_t (by omega) ?_ | refine bi_eql_f (by omega) ?_ | refine bi_neq_t (by omega) ?_ | refine bi_neq_f (by omega) ?_ | refine bi_gtr_t (by omega) ?_ | refine bi_gtr_f (by omega) ?_ | refine bi_leq_t (by omega) ?_ | refine bi_leq_f (by omega) ?_ | refine bi_geq_t (by omega) ?_ | refine bi_geq_f (by omega) ?_ | refine bi_xt0 ?_ | refine bi_xt1 ?_ | refine bi_xt2 ?_ | refine bi_xt3 ?_ | refine bi_T ?_ | refine bi_F ?_ | refine bi_not ?_ | refine bi_and ?_ | refine bi_or ?_ | refine bi_xor ?_ | refine bi_shr (by omega) (by decide) ?_ | refine bi_shl (by omega) (by decide) ?_ | refine bi_quo64 (by omega) ?_ | refine bi_rem64 (by omega) ?_ | refine bi_mul64 (by omega) ?_ | refine bi_neg ?_ | refine bi_un_xor32 ?_ | refine bi_add ?_ | refine bi_sub ?_ | refine bi_mul ?_ | refine bi_quo (by decide) ?_ | refine bi_rem (by decide) ?_)
    exact ⟨rfl, rfl⟩
  · (repeat with_reducible first | refine nck ?_ | refine cdT ?_ | refine cdF ?_ | refine gdY ?_ | refine gdFT ?_ | refine gdTF ?_ | refine gdU ?_ | refine gaY ?_ | refine gaFT ?_ | refine gaTF ?_ | refine pickT ?_ | refine pickF ?_ | refine bi_lss_t (by omega) ?_ | refine bi_lss_f (by omega) ?_ | refine bi_add64 (by omega) ?_ | refine bi_sub64 (by omega) ?_ | refine bi_eql_t (by omega) ?_ | refine bi_eql_f (by omega) ?_ | refine bi_neq_t (by omega) ?_ | refine bi_neq_f (by omega) ?_ | refine bi_gtr_t (by omega) ?_ | refine bi_gtr_f (by omega) ?_ | refine bi_leq_t (by omega) ?_ | refine bi_leq_f (by omega) ?_ | refine bi_geq_t (by omega) ?_ | refine bi_geq_f (by omega) ?_ | refine bi_xt0 ?_ | refine bi_xt1 ?_ | refine bi_xt2 ?_ | refine bi_xt3 ?_ | refine bi_T ?_ | refine bi_F ?_ | refine bi_not ?_ | refine bi_and ?_ | refine bi_or ?_ | refine bi_xor ?_ | refine bi_shr (by omega) (by decide) ?_ | refine bi_shl (by omega) (by decide) ?_ | refine bi_quo64 (by omega) ?_ | refine bi_rem64 (by omega) ?_ | refine bi_mul64 (by omega) ?_ | refine bi_neg ?_ | refine bi_un_xor32 ?_ | refine bi_add ?_ | refine bi_sub ?_ | refine bi_mul ?_ | refine bi_quo (by decide) ?_ | refine bi_rem (by decide) ?_)
    exact ⟨rfl, rfl⟩
/-- The first that is not nought. -/
def firstP : List Int → Int
  | [] => 0
  | e :: r => if e ≠ 0 then e else firstP r
theorem firstP_drop (ys : List Int) (i : Nat) (h : ∀ y ∈ ys.take i, y = 0) : firstP ys = firstP (ys.drop i) := by
  induction i generalizing ys with
  | zero => rfl
  | succ i ih =>
    cases ys with
    | nil => rfl
    | cons y r =>
      have h0 : y = 0 := h y (by simp)
      rw [List.drop_succ_cons, firstP, if_neg (by omega)]
      exact ih r fun z hz => h z (by simp [hz])
theorem first_spec (v : Value) (ys : List Int) (w : World) (hv : Rd w v (ys.map (Value.int .i64))) (hl : ys.length ≤ 1000000) :
    CallP Try.prog 40 #[v] (fun r w' => r = .int .i64 (firstP ys) ∧ w = w') w := by
  obtain ⟨A, c, rfl, hc1, hc2⟩ := hv.slice
  have hlen : (ys.map (Value.int .i64)).length = ys.length := List.length_map _
  rw [hlen] at hv hc1 ⊢
  refine ⟨S40.calls _ _ _ ?_⟩
  unfold S40
  refine ln und97 ?_
  refine LoopP.inv1 (fun iv w' => ∃ i : Nat, i ≤ ys.length ∧ iv = .int .i64 i ∧ (∀ y ∈ ys.take i, y = 0) ∧ w = w') (fun iv _ => ys.length - (intOf iv).toNat) ⟨0, by omega, rfl, by simp, rfl⟩ ?_
  rintro _ _ ⟨i, hi, rfl, hall, rfl⟩ J hJ
  dsimp only [List.headD_cons, List.tail_cons]
  refine bi_lss_c (fun h => ?_) (fun h => ?_)
  · have hi' : i < ys.length := by omega
    obtain ⟨a, rfl, hca⟩ := Rd.atI hv i hi'
    (repeat with_reducible first | refine ix1 und97 sz22 hi' ?_ | refine ld one22 hca ?_ | refine nck ?_ | refine cdT ?_ | refine cdF ?_ | refine gdY ?_ | refine gdFT ?_ | refine gdTF ?_ | refine gdU ?_ | refine gaY ?_ | refine gaFT ?_ | refine gaTF ?_ | refine pickT ?_ | refine pickF ?_ | refine bi_lss_t (by omega) ?_ | refine bi_lss_f (by omega) ?_ | refine bi_add64 (by omega) ?_ | refine bi_sub64 (by omega) ?_ | refine bi_eql_t (by omega) ?_ | refine bi_eql_f (by omega) ?_ | refine bi_neq_t (by omega) ?_ | refine bi_neq_f (by omega) ?_ | refine bi_gtr_t (by omega) ?_ | refine bi_gtr_f (by omega) ?_ | refine bi_leq_t (by omega) ?_ | refine bi_leq_f (by omega) ?_ | refine bi_geq_t (by omega) ?_ | refine bi_geq_f (by omega) ?_ | refine bi_xt0 ?_ | refine bi_xt1 ?_ | refine bi_xt2 ?_ | refine bi_xt3 ?_ | refine bi_T ?_ | refine bi_F ?_ | refine bi_not ?_ | refine bi_and ?_ | refine bi_or ?_ | refine bi_xor ?_ | refine bi_shr (by omega) (by decide) ?_ | refine bi_shl (by omega) (by decide) ?_ | refine bi_quo64 (by omega) ?_ | refine bi_rem64 (by omega) ?_ | refine bi_mul64 (by omega) ?_ | refine bi_neg ?_ | refine bi_un_xor32 ?_ | refine bi_add ?_ | refine bi_sub ?_ | refine bi_mul ?_ | refine bi_quo (by decide) ?_ | refine bi_rem (by decide) ?_)
    refine bi_neq_c (fun h0 => ?_) (fun h0 => ?_)
    · (repeat with_reducible first | refine nck ?_ | refine cdT ?_ | refine cdF ?_ | refine gdY ?_ | refine gdFT ?_ | refine gdTF ?_ | refine gdU ?_ | refine gaY ?_ | refine gaFT ?_ | refine gaTF ?_ | refine pickT ?_ | refine pickF ?_ | refine bi_lss_t (by omega) ?_ | refine bi_lss_f (by omega) ?_ | refine bi_add64 (by omega) ?_ | refine bi_sub64 (by omega) ?_ | refine bi_eql_t (by omega) ?_ | refine bi_eql_f (by omega) ?_ | refine bi_neq_t (by omega) ?_ | refine bi_neq_f (by omega) ?_ | refine bi_gtr_t (by omega) ?_ | refine bi_gtr_f (by omega) ?_ | refine bi_leq_t (by omega) ?_ | refine bi_leq_f (by omega) ?_ | refine bi_geq_t (by omega) ?_ | refine bi_geq_f (by omega) ?_ | refine bi_xt0 ?_ | refine bi_xt1 ?_ | refine bi_xt2 ?_ | refine bi_xt3 ?_ | refine bi_T ?_ | refine bi_F ?_ | refine bi_not ?_ | refine bi_and ?_ | refine bi_or ?_ | refine bi_xor ?_ | refine bi_shr (by omega) (by decide) ?_ | refine bi_shl (by omega) (by decide) ?_ | refine bi_quo64 (by omega) ?_ | refine bi_rem64 (by omega) ?_ | refine bi_mul64 (by omega) ?_ | refine bi_neg ?_ | refine bi_un_xor32 ?_ | refine bi_add ?_ | refine bi_sub ?_ | refine bi_mul ?_ | refine bi_quo (by decide) ?_ | refine bi_rem (by decide) ?_)
      refine ⟨?_, rfl⟩
      rw [firstP_drop ys i hall, List.drop_eq_getElem_cons hi', firstP, if_pos h0]
    · (repeat with_reducible first | refine nck ?_ | refine cdT ?_ | refine cdF ?_ | refine gdY ?_ | refine gdFT ?_ | refine gdTF ?_ | refine gdU ?_ | refine gaY ?_ | refine gaFT ?_ | refine gaTF ?_ | refine pickT ?_ | refine pickF ?_ | refine bi_lss_t (by omega) ?_ | refine bi_lss_f (by omega) ?_ | refine bi_add64 (by omega) ?_ | refine bi_sub64 (by omega) ?_ | refine bi_eql_t (by omega) ?_ | refine bi_eql_f (by omega) ?_ | refine bi_neq_t (by omega) ?_ | refine bi_neq_f (by omega) ?_ | refine bi_gtr_t (by omega) ?_ | refine bi_gtr_f (by omega) ?_ | refine bi_leq_t (by omega) ?_ | refine bi_leq_f (by omega) ?_ | refine bi_geq_t (by omega) ?_ | refine bi_geq_f (by omega) ?_ | refine bi_xt0 ?_ | refine bi_xt1 ?_ | refine bi_xt2 ?_ | refine bi_xt3 ?_ | refine bi_T ?_ | refine bi_F ?_ | refine bi_not ?_ | refine bi_and ?_ | refine bi_or ?_ | refine bi_xor ?_ | refine bi_shr (by omega) (by decide) ?_ | refine bi_shl (by omega) (by decide) ?_ | refine bi_quo64 (by omega) ?_ | refine bi_rem64 (by omega) ?_ | refine bi_mul64 (by omega) ?_ | refine bi_neg ?_ | refine bi_un_xor32 ?_ | refine bi_add ?_ | refine bi_sub ?_ | refine bi_mul ?_ | refine bi_quo (by decide) ?_ | refine bi_rem (by decide) ?_)
      refine hJ _ _ ⟨i + 1, by omega, by simp, fun y hy => ?_, rfl⟩ (by simp [intOf]; omega)
      rw [List.take_succ_eq_append_getElem hi'] at hy
      rcases List.mem_append.1 hy with hy | hy
      · exact hall y hy
      · simp only [List.mem_cons, List.not_mem_nil, or_false] at hy
        subst hy; exact h0
  · (repeat with_reducible first | refine nck ?_ | refine cdT ?_ | refine cdF ?_ | refine gdY ?_ | refine gdFT ?_ | refine gdTF ?_ | refine gdU ?_ | refine gaY ?_ | refine gaFT ?_ | refine gaTF ?_ | refine pickT ?_ | refine pickF ?_ | refine bi_lss_t (by omega) ?_ | refine bi_lss_f (by omega) ?_ | refine bi_add64 (by omega) ?_ | refine bi_sub64 (by omega) ?_ | refine bi_eql_t (by omega) ?_ | refine bi_eql_f (by omega) ?_ | refine bi_neq_t (by omega) ?_ | refine bi_neq_f (by omega) ?_ | refine bi_gtr_t (by omega) ?_ | refine bi_gtr_f (by omega) ?_ | refine bi_leq_t (by omega) ?_ | refine bi_leq_f (by omega) ?_ | refine bi_geq_t (by omega) ?_ | refine bi_geq_f (by omega) ?_ | refine bi_xt0 ?_ | refine bi_xt1 ?_ | refine bi_xt2 ?_ | refine bi_xt3 ?_ | refine bi_T ?_ | refine bi_F ?_ | refine bi_not ?_ | refine bi_and ?_ | refine bi_or ?_ | refine bi_xor ?_ | refine bi_shr (by omega) (by decide) ?_ | refine bi_shl (by omega) (by decide) ?_ | refine bi_quo64 (by omega) ?_ | refine bi_rem64 (by omega) ?_ | refine bi_mul64 (by omega) ?_ | refine bi_neg ?_ | refine bi_un_xor32 ?_ | refine bi_add ?_ | refine bi_sub ?_ | refine bi_mul ?_ | refine bi_quo (by decide) ?_ | refine bi_rem (by decide) ?_)
    have : i = ys.length := by omega
    subst this
    refine ⟨?_, rfl⟩
    rw [firstP_drop ys ys.length hall, List.drop_length]; rfl
/-- May a value be? -/
def goodV (v : ValT) : Bool :=
  if v.1 = 0 then sameV v (0, 0, ⟨#[]⟩, ()) else if v.1 = 1 then decide (v.2.2.1.data.toList = []) else if v.1 = 2 then decide (v.2.1 = 0) && decide (v.2.2.1.size ≤ 32) else false
theorem good_spec (v : ValT) (w : World) : CallP Try.prog 54 #[.agg (valF v).toArray] (fun r w' => r = .bool (goodV v) ∧ Below w.heap.size w w') w := by
  refine ⟨S54.calls _ _ _ ?_⟩
  unfold S54
  refine bx ?_
  have hL : Blk (w.alloc (.cells (Value.agg (valF v).toArray).cells 36)) w.heap.size 36 (valF v).toArray := Blk.new w 36 _
  have ha := (Below.refl w.heap.size w).alloc (Nat.le_refl _) (.cells (Value.agg (valF v).toArray).cells 36)
  generalize w.alloc (.cells (Value.agg (valF v).toArray).cells 36) = w1 at *
  have c0 : w1.cell? ⟨w.heap.size, 0, none⟩ = some (.int .i64 v.1) := hL.cell 0
  have c1 : w1.cell? ⟨w.heap.size, 1, none⟩ = some (.int .i64 v.2.1) := hL.cell 1
  have c2 : w1.cell? ⟨w.heap.size, 2, none⟩ = some (.string v.2.2.1) := hL.cell 2
  unfold goodV
  (repeat with_reducible first | refine fd v0 (by decide) ?_ | refine ld one3 c0 ?_ | refine nck ?_ | refine cdT ?_ | refine cdF ?_ | refine gdY ?_ | refine gdFT ?_ | refine gdTF ?_ | refine gdU ?_ | refine gaY ?_ | refine gaFT ?_ | refine gaTF ?_ | refine pickT ?_ | refine pickF ?_ | refine bi_lss_t (by omega) ?_ | refine bi_lss_f (by omega) ?_ | refine bi_add64 (by omega) ?_ | refine bi_sub64 (by omega) ?_ | refine bi_eql_t (by omega) ?_ | refine bi_eql_f (by omega) ?_ | refine bi_neq_t (by omega) ?_ | refine bi_neq_f (by omega) ?_ | refine bi_gtr_t (by omega) ?_ | refine bi_gtr_f (by omega) ?_ | refine bi_leq_t (by omega) ?_ | refine bi_leq_f (by omega) ?_ | refine bi_geq_t (by omega) ?_ | refine bi_geq_f (by omega) ?_ | refine bi_xt0 ?_ | refine bi_xt1 ?_ | refine bi_xt2 ?_ | refine bi_xt3 ?_ | refine bi_T ?_ | refine bi_F ?_ | refine bi_not ?_ | refine bi_and ?_ | refine bi_or ?_ | refine bi_xor ?_ | refine bi_shr (by omega) (by decide) ?_ | refine bi_shl (by omega) (by decide) ?_ | refine bi_quo64 (by omega) ?_ | refine bi_rem64 (by omega) ?_ | refine bi_mul64 (by omega) ?_ | refine bi_neg ?_ | refine bi_un_xor32 ?_ | refine bi_add ?_ | refine bi_sub ?_ | refine bi_mul ?_ | refine bi_quo (by decide) ?_ | refine bi_rem (by decide) ?_)
  refine bi_eql_c (fun h0 => ?_) (fun h0 => ?_)
  · rw [if_pos h0]
    (repeat with_reducible first | refine nck ?_ | refine cdT ?_ | refine cdF ?_ | refine gdY ?_ | refine gdFT ?_ | refine gdTF ?_ | refine gdU ?_ | refine gaY ?_ | refine gaFT ?_ | refine gaTF ?_ | refine pickT ?_ | refine pickF ?_ | refine bi_lss_t (by omega) ?_ | refine bi_lss_f (by omega) ?_ | refine bi_add64 (by omega) ?_ | refine bi_sub64 (by omega) ?_ | refine bi_eql_t (by omega) ?_ | refine bi_eql_f (by omega) ?_ | refine bi_neq_t (by omega) ?_ | refine bi_neq_f (by omega) ?_ | refine bi_gtr_t (by omega) ?_ | refine bi_gtr_f (by omega) ?_ | refine bi_leq_t (by omega) ?_ | refine bi_leq_f (by omega) ?_ | refine bi_geq_t (by omega) ?_ | refine bi_geq_f (by omega) ?_ | refine bi_xt0 ?_ | refine bi_xt1 ?_ | refine bi_xt2 ?_ | refine bi_xt3 ?_ | refine bi_T ?_ | refine bi_F ?_ | refine bi_not ?_ | refine bi_and ?_ | refine bi_or ?_ | refine bi_xor ?_ | refine bi_shr (by omega) (by decide) ?_ | refine bi_shl (by omega) (by decide) ?_ | refine bi_quo64 (by omega) ?_ | refine bi_rem64 (by omega) ?_ | refine bi_mul64 (by omega) ?_ | refine bi_neg ?_ | refine bi_un_xor32 ?_ | refine bi_add ?_ | refine bi_sub ?_ | refine bi_mul ?_ | refine bi_quo (by decide) ?_ | refine bi_rem (by decide) ?_)
    refine ldA agg36 hL (by exact sz36) ?_
    refine bd (cells := (valF (0, 0, ⟨#[]⟩, ())).toArray) (by kernel_rfl) ?_
    refine ofPR (pr_eql36 v (0, 0, ⟨#[]⟩, ())) ?_
    exact ⟨rfl, ha⟩
  rw [if_neg h0]
  (repeat with_reducible first | refine nck ?_ | refine cdT ?_ | refine cdF ?_ | refine gdY ?_ | refine gdFT ?_ | refine gdTF ?_ | refine gdU ?_ | refine gaY ?_ | refine gaFT ?_ | refine gaTF ?_ | refine pickT ?_ | refine pickF ?_ | refine bi_lss_t (by omega) ?_ | refine bi_lss_f (by omega) ?_ | refine bi_add64 (by omega) ?_ | refine bi_sub64 (by omega) ?_ | refine bi_eql_t (by omega) ?_ | refine bi_eql_f (by omega) ?_ | refine bi_neq_t (by omega) ?_ | refine bi_neq_f (by omega) ?_ | refine bi_gtr_t (by omega) ?_ | refine bi_gtr_f (by omega) ?_ | refine bi_leq_t (by omega) ?_ | refine bi_leq_f (by omega) ?_ | refine bi_geq_t (by omega) ?_ | refine bi_geq_f (by omega) ?_ | refine bi_xt0 ?_ | refine bi_xt1 ?_ | refine bi_xt2 ?_ | refine bi_xt3 ?_ | refine bi_T ?_ | refine bi_F ?_ | refine bi_not ?_ | refine bi_and ?_ | refine bi_or ?_ | refine bi_xor ?_ | refine bi_shr (by omega) (by decide) ?_ | refine bi_shl (by omega) (by decide) ?_ | refine bi_quo64 (by omega) ?_ | refine bi_rem64 (by omega) ?_ | refine bi_mul64 (by omega) ?_ | refine bi_neg ?_ | refine bi_un_xor32 ?_ | refine bi_add ?_ | refine bi_sub ?_ | refine bi_mul ?_ | refine bi_quo (by decide) ?_ | refine bi_rem (by decide) ?_)
  refine bi_eql_c (fun h1 => ?_) (fun h1 => ?_)
  · rw [if_pos h1]
    (repeat with_reducible first | refine fd v2 (by decide) ?_ | refine ld one9 c2 ?_ | refine nck ?_ | refine cdT ?_ | refine cdF ?_ | refine gdY ?_ | refine gdFT ?_ | refine gdTF ?_ | refine gdU ?_ | refine gaY ?_ | refine gaFT ?_ | refine gaTF ?_ | refine pickT ?_ | refine pickF ?_ | refine bi_lss_t (by omega) ?_ | refine bi_lss_f (by omega) ?_ | refine bi_add64 (by omega) ?_ | refine bi_sub64 (by omega) ?_ | refine bi_eql_t (by omega) ?_ | refine bi_eql_f (by omega) ?_ | refine bi_neq_t (by omega) ?_ | refine bi_neq_f (by omega) ?_ | refine bi_gtr_t (by omega) ?_ | refine bi_gtr_f (by omega) ?_ | refine bi_leq_t (by omega) ?_ | refine bi_leq_f (by omega) ?_ | refine bi_geq_t (by omega) ?_ | refine bi_geq_f (by omega) ?_ | refine bi_xt0 ?_ | refine bi_xt1 ?_ | refine bi_xt2 ?_ | refine bi_xt3 ?_ | refine bi_T ?_ | refine bi_F ?_ | refine bi_not ?_ | refine bi_and ?_ | refine bi_or ?_ | refine bi_xor ?_ | refine bi_shr (by omega) (by decide) ?_ | refine bi_shl (by omega) (by decide) ?_ | refine bi_quo64 (by omega) ?_ | refine bi_rem64 (by omega) ?_ | refine bi_mul64 (by omega) ?_ | refine bi_neg ?_ | refine bi_un_xor32 ?_ | refine bi_add ?_ | refine bi_sub ?_ | refine bi_mul ?_ | refine bi_quo (by decide) ?_ | refine bi_rem (by decide) ?_)
    refine bi_seql ?_
    exact ⟨rfl, ha⟩
  rw [if_neg h1]
  (repeat with_reducible first | refine nck ?_ | refine cdT ?_ | refine cdF ?_ | refine gdY ?_ | refine gdFT ?_ | refine gdTF ?_ | refine gdU ?_ | refine gaY ?_ | refine gaFT ?_ | refine gaTF ?_ | refine pickT ?_ | refine pickF ?_ | refine bi_lss_t (by omega) ?_ | refine bi_lss_f (by omega) ?_ | refine bi_add64 (by omega) ?_ | refine bi_sub64 (by omega) ?_ | refine bi_eql_t (by omega) ?_ | refine bi_eql_f (by omega) ?_ | refine bi_neq_t (by omega) ?_ | refine bi_neq_f (by omega) ?_ | refine bi_gtr_t (by omega) ?_ | refine bi_gtr_f (by omega) ?_ | refine bi_leq_t (by omega) ?_ | refine bi_leq_f (by omega) ?_ | refine bi_geq_t (by omega) ?_ | refine bi_geq_f (by omega) ?_ | refine bi_xt0 ?_ | refine bi_xt1 ?_ | refine bi_xt2 ?_ | refine bi_xt3 ?_ | refine bi_T ?_ | refine bi_F ?_ | refine bi_not ?_ | refine bi_and ?_ | refine bi_or ?_ | refine bi_xor ?_ | refine bi_shr (by omega) (by decide) ?_ | refine bi_shl (by omega) (by decide) ?_ | refine bi_quo64 (by omega) ?_ | refine bi_rem64 (by omega) ?_ | refine bi_mul64 (by omega) ?_ | refine bi_neg ?_ | refine bi_un_xor32 ?_ | refine bi_add ?_ | refine bi_sub ?_ | refine bi_mul ?_ | refine bi_quo (by decide) ?_ | refine bi_rem (by decide) ?_)
  refine bi_eql_c (fun h2 => ?_) (fun h2 => ?_)
  · rw [if_pos h2]
    (repeat with_reducible first | refine fd v1 (by decide) ?_ | refine ld one3 c1 ?_ | refine nck ?_ | refine cdT ?_ | refine cdF ?_ | refine gdY ?_ | refine gdFT ?_ | refine gdTF ?_ | refine gdU ?_ | refine gaY ?_ | refine gaFT ?_ | refine gaTF ?_ | refine pickT ?_ | refine pickF ?_ | refine bi_lss_t (by omega) ?_ | refine bi_lss_f (by omega) ?_ | refine bi_add64 (by omega) ?_ | refine bi_sub64 (by omega) ?_ | refine bi_eql_t (by omega) ?_ | refine bi_eql_f (by omega) ?_ | refine bi_neq_t (by omega) ?_ | refine bi_neq_f (by omega) ?_ | refine bi_gtr_t (by omega) ?_ | refine bi_gtr_f (by omega) ?_ | refine bi_leq_t (by omega) ?_ | refine bi_leq_f (by omega) ?_ | refine bi_geq_t (by omega) ?_ | refine bi_geq_f (by omega) ?_ | refine bi_xt0 ?_ | refine bi_xt1 ?_ | refine bi_xt2 ?_ | refine bi_xt3 ?_ | refine bi_T ?_ | refine bi_F ?_ | refine bi_not ?_ | refine bi_and ?_ | refine bi_or ?_ | refine bi_xor ?_ | refine bi_shr (by omega) (by decide) ?_ | refine bi_shl (by omega) (by decide) ?_ | refine bi_quo64 (by omega) ?_ | refine bi_rem64 (by omega) ?_ | refine bi_mul64 (by omega) ?_ | refine bi_neg ?_ | refine bi_un_xor32 ?_ | refine bi_add ?_ | refine bi_sub ?_ | refine bi_mul ?_ | refine bi_quo (by decide) ?_ | refine bi_rem (by decide) ?_)
    refine bi_eql_c (fun h3 => ?_) (fun h3 => ?_)
    · (repeat with_reducible first | refine fd v2 (by decide) ?_ | refine ld one9 c2 ?_ | refine nck ?_ | refine cdT ?_ | refine cdF ?_ | refine gdY ?_ | refine gdFT ?_ | refine gdTF ?_ | refine gdU ?_ | refine gaY ?_ | refine gaFT ?_ | refine gaTF ?_ | refine pickT ?_ | refine pickF ?_ | refine bi_lss_t (by omega) ?_ | refine bi_lss_f (by omega) ?_ | refine bi_add64 (by omega) ?_ | refine bi_sub64 (by omega) ?_ | refine bi_eql_t (by omega) ?_ | refine bi_eql_f (by omega) ?_ | refine bi_neq_t (by omega) ?_ | refine bi_neq_f (by omega) ?_ | refine bi_gtr_t (by omega) ?_ | refine bi_gtr_f (by omega) ?_ | refine bi_leq_t (by omega) ?_ | refine bi_leq_f (by omega) ?_ | refine bi_geq_t (by omega) ?_ | refine bi_geq_f (by omega) ?_ | refine bi_xt0 ?_ | refine bi_xt1 ?_ | refine bi_xt2 ?_ | refine bi_xt3 ?_ | refine bi_T ?_ | refine bi_F ?_ | refine bi_not ?_ | refine bi_and ?_ | refine bi_or ?_ | refine bi_xor ?_ | refine bi_shr (by omega) (by decide) ?_ | refine bi_shl (by omega) (by decide) ?_ | refine bi_quo64 (by omega) ?_ | refine bi_rem64 (by omega) ?_ | refine bi_mul64 (by omega) ?_ | refine bi_neg ?_ | refine bi_un_xor32 ?_ | refine bi_add ?_ | refine bi_sub ?_ | refine bi_mul ?_ | refine bi_quo (by decide) ?_ | refine bi_rem (by decide) ?_)
      refine lns und9 ?_
      (repeat with_reducible first | refine nck ?_ | refine cdT ?_ | refine cdF ?_ | refine gdY ?_ | refine gdFT ?_ | refine gdTF ?_ | refine gdU ?_ | refine gaY ?_ | refine gaFT ?_ | refine gaTF ?_ | refine pickT ?_ | refine pickF ?_ | refine bi_lss_t (by omega) ?_ | refine bi_lss_f (by omega) ?_ | refine bi_add64 (by omega) ?_ | refine bi_sub64 (by omega) ?_ | refine bi_eql_t (by omega) ?_ | refine bi_eql_f (by omega) ?_ | refine bi_neq_t (by omega) ?_ | refine bi_neq_f (by omega) ?_ | refine bi_gtr_t (by omega) ?_ | refine bi_gtr_f (by omega) ?_ | refine bi_leq_t (by omega) ?_ | refine bi_leq_f (by omega) ?_ | refine bi_geq_t (by omega) ?_ | refine bi_geq_f (by omega) ?_ | refine bi_xt0 ?_ | refine bi_xt1 ?_ | refine bi_xt2 ?_ | refine bi_xt3 ?_ | refine bi_T ?_ | refine bi_F ?_ | refine bi_not ?_ | refine bi_and ?_ | refine bi_or ?_ | refine bi_xor ?_ | refine bi_shr (by omega) (by decide) ?_ | refine bi_shl (by omega) (by decide) ?_ | refine bi_quo64 (by omega) ?_ | refine bi_rem64 (by omega) ?_ | refine bi_mul64 (by omega) ?_ | refine bi_neg ?_ | refine bi_un_xor32 ?_ | refine bi_add ?_ | refine bi_sub ?_ | refine bi_mul ?_ | refine bi_quo (by decide) ?_ | refine bi_rem (by decide) ?_)
      refine bi_leq ?_
      (repeat with_reducible first | refine nck ?_ | refine cdT ?_ | refine cdF ?_ | refine gdY ?_ | refine gdFT ?_ | refine gdTF ?_ | refine gdU ?_ | refine gaY ?_ | refine gaFT ?_ | refine gaTF ?_ | refine pickT ?_ | refine pickF ?_ | refine bi_lss_t (by omega) ?_ | refine bi_lss_f (by omega) ?_ | refine bi_add64 (by omega) ?_ | refine bi_sub64 (by omega) ?_ | refine bi_eql_t (by omega) ?_ | refine bi_eql_f (by omega) ?_ | refine bi_neq_t (by omega) ?_ | refine bi_neq_f (by omega) ?_ | refine bi_gtr_t (by omega) ?_ | refine bi_gtr_f (by omega) ?_ | refine bi_leq_t (by omega) ?_ | refine bi_leq_f (by omega) ?_ | refine bi_geq_t (by omega) ?_ | refine bi_geq_f (by omega) ?_ | refine bi_xt0 ?_ | refine bi_xt1 ?_ | refine bi_xt2 ?_ | refine bi_xt3 ?_ | refine bi_T ?_ | refine bi_F ?_ | refine bi_not ?_ | refine bi_and ?_ | refine bi_or ?_ | refine bi_xor ?_ | refine bi_shr (by omega) (by decide) ?_ | refine bi_shl (by omega) (by decide) ?_ | refine bi_quo64 (by omega) ?_ | refine bi_rem64 (by omega) ?_ | refine bi_mul64 (by omega) ?_ | refine bi_neg ?_ | refine bi_un_xor32 ?_ | refine bi_add ?_ | refine bi_sub ?_ | refine bi_mul ?_ | refine bi_quo (by decide) ?_ | refine bi_rem (by decide) ?_)
      refine ⟨?_, ha⟩
      rw [decide_eq_true h3, Bool.true_and]
      congr 1
      exact decide_eq_decide.2 (by omega)
    · (repeat with_reducible first | refine nck ?_ | refine cdT ?_ | refine cdF ?_ | refine gdY ?_ | refine gdFT ?_ | refine gdTF ?_ | refine gdU ?_ | refine gaY ?_ | refine gaFT ?_ | refine gaTF ?_ | refine pickT ?_ | refine pickF ?_ | refine bi_lss_t (by omega) ?_ | refine bi_lss_f (by omega) ?_ | refine bi_add64 (by omega) ?_ | refine bi_sub64 (by omega) ?_ | refine bi_eql_t (by omega) ?_ | refine bi_eql_f (by omega) ?_ | refine bi_neq_t (by omega) ?_ | refine bi_neq_f (by omega) ?_ | refine bi_gtr_t (by omega) ?_ | refine bi_gtr_f (by omega) ?_ | refine bi_leq_t (by omega) ?_ | refine bi_leq_f (by omega) ?_ | refine bi_geq_t (by omega) ?_ | refine bi_geq_f (by omega) ?_ | refine bi_xt0 ?_ | refine bi_xt1 ?_ | refine bi_xt2 ?_ | refine bi_xt3 ?_ | refine bi_T ?_ | refine bi_F ?_ | refine bi_not ?_ | refine bi_and ?_ | refine bi_or ?_ | refine bi_xor ?_ | refine bi_shr (by omega) (by decide) ?_ | refine bi_shl (by omega) (by decide) ?_ | refine bi_quo64 (by omega) ?_ | refine bi_rem64 (by omega) ?_ | refine bi_mul64 (by omega) ?_ | refine bi_neg ?_ | refine bi_un_xor32 ?_ | refine bi_add ?_ | refine bi_sub ?_ | refine bi_mul ?_ | refine bi_quo (by decide) ?_ | refine bi_rem (by decide) ?_)
      exact ⟨by rw [decide_eq_false h3]; rfl, ha⟩
  · rw [if_neg h2]
    (repeat with_reducible first | refine nck ?_ | refine cdT ?_ | refine cdF ?_ | refine gdY ?_ | refine gdFT ?_ | refine gdTF ?_ | refine gdU ?_ | refine gaY ?_ | refine gaFT ?_ | refine gaTF ?_ | refine pickT ?_ | refine pickF ?_ | refine bi_lss_t (by omega) ?_ | refine bi_lss_f (by omega) ?_ | refine bi_add64 (by omega) ?_ | refine bi_sub64 (by omega) ?_ | refine bi_eql_t (by omega) ?_ | refine bi_eql_f (by omega) ?_ | refine bi_neq_t (by omega) ?_ | refine bi_neq_f (by omega) ?_ | refine bi_gtr_t (by omega) ?_ | refine bi_gtr_f (by omega) ?_ | refine bi_leq_t (by omega) ?_ | refine bi_leq_f (by omega) ?_ | refine bi_geq_t (by omega) ?_ | refine bi_geq_f (by omega) ?_ | refine bi_xt0 ?_ | refine bi_xt1 ?_ | refine bi_xt2 ?_ | refine bi_xt3 ?_ | refine bi_T ?_ | refine bi_F ?_ | refine bi_not ?_ | refine bi_and ?_ | refine bi_or ?_ | refine bi_xor ?_ | refine bi_shr (by omega) (by decide) ?_ | refine bi_shl (by omega) (by decide) ?_ | refine bi_quo64 (by omega) ?_ | refine bi_rem64 (by omega) ?_ | refine bi_mul64 (by omega) ?_ | refine bi_neg ?_ | refine bi_un_xor32 ?_ | refine bi_add ?_ | refine bi_sub ?_ | refine bi_mul ?_ | refine bi_quo (by decide) ?_ | refine bi_rem (by decide) ?_)
    exact ⟨rfl, ha⟩
theorem call43 : callable Try.prog 43 = true := by kernel_rfl
theorem bad_spec (v : ValT) (w : World) : CallP Try.prog 43 #[.agg (valF v).toArray] (fun r w' => r = .bool (!goodV v) ∧ Below w.heap.size w w') w := by
  refine ⟨S43.calls _ _ _ ?_⟩
  unfold S43
  refine bx ?_
  have hL : Blk (w.alloc (.cells (Value.agg (valF v).toArray).cells 36)) w.heap.size 36 (valF v).toArray := Blk.new w 36 _
  have ha := (Below.refl w.heap.size w).alloc (Nat.le_refl _) (.cells (Value.agg (valF v).toArray).cells 36)
  generalize w.alloc (.cells (Value.agg (valF v).toArray).cells 36) = w1 at *
  refine ldA agg36 hL (by exact sz36) ?_
  refine (good_spec v w1).mono ?_
  rintro _ w2 ⟨rfl, hb⟩
  refine bi_not ?_
  exact ⟨rfl, below_then ha hb⟩
theorem any_spec (v : Value) (vs : List ValT) (w : World) (hv : Vals w [v] vs) :
    CallP Try.prog 42 #[v, .func (.func 43) #[] #[]] (fun r w' => r = .bool (vs.any fun x => !goodV x) ∧ Below w.heap.size w w') w := by
  obtain ⟨A, c, rfl, hc, hm⟩ := hv.slice
  refine ⟨S42.calls _ _ _ _ ?_⟩
  unfold S42
  have hidx : CallP Try.prog 53 #[.slice A vs.length c, .func (.func 43) #[] #[]] (fun r w' => (∃ i : Int, r = .int .i64 i ∧ decide (0 ≤ i) = (vs.any fun x => !goodV x)) ∧ Below w.heap.size w w') w := by
    refine ⟨S53.calls _ _ _ _ ?_⟩
    unfold S53
    refine ln und24 ?_
    refine LoopP.inv1 (fun iv w' => ∃ i : Nat, i ≤ vs.length ∧ iv = .int .i64 i ∧ (∀ x ∈ vs.take i, goodV x = true) ∧ Below w.heap.size w w') (fun iv _ => vs.length - (intOf iv).toNat) ⟨0, by omega, rfl, by simp, Below.refl _ _⟩ ?_
    rintro _ w1 ⟨i, hi, rfl, hall, hb1⟩ J hJ
    dsimp only [List.headD_cons, List.tail_cons]
    refine bi_lss_c (fun h => ?_) (fun h => ?_)
    · have hi' : i < vs.length := by omega
      obtain ⟨a, us, rfl, hus, hcell, hrd⟩ := rRow.at (keeps_Vals _ _ _ _ hb1 hv) i hi'
      have hue := (val_cells hrd).1
      subst hue
      (repeat with_reducible first | refine nck ?_ | refine cdT ?_ | refine cdF ?_ | refine gdY ?_ | refine gdFT ?_ | refine gdTF ?_ | refine gdU ?_ | refine gaY ?_ | refine gaFT ?_ | refine gaTF ?_ | refine pickT ?_ | refine pickF ?_ | refine bi_lss_t (by omega) ?_ | refine bi_lss_f (by omega) ?_ | refine bi_add64 (by omega) ?_ | refine bi_sub64 (by omega) ?_ | refine bi_eql_t (by omega) ?_ | refine bi_eql_f (by omega) ?_ | refine bi_neq_t (by omega) ?_ | refine bi_neq_f (by omega) ?_ | refine bi_gtr_t (by omega) ?_ | refine bi_gtr_f (by omega) ?_ | refine bi_leq_t (by omega) ?_ | refine bi_leq_f (by omega) ?_ | refine bi_geq_t (by omega) ?_ | refine bi_geq_f (by omega) ?_ | refine bi_xt0 ?_ | refine bi_xt1 ?_ | refine bi_xt2 ?_ | refine bi_xt3 ?_ | refine bi_T ?_ | refine bi_F ?_ | refine bi_not ?_ | refine bi_and ?_ | refine bi_or ?_ | refine bi_xor ?_ | refine bi_shr (by omega) (by decide) ?_ | refine bi_shl (by omega) (by decide) ?_ | refine bi_quo64 (by omega) ?_ | refine bi_rem64 (by omega) ?_ | refine bi_mul64 (by omega) ?_ | refine bi_neg ?_ | refine bi_un_xor32 ?_ | refine bi_add ?_ | refine bi_sub ?_ | refine bi_mul ?_ | refine bi_quo (by decide) ?_ | refine bi_rem (by decide) ?_)
      refine ix und24 sz36 (by omega) (by omega) ?_
      rw [Int.toNat_natCast]
      refine ldR agg36 hcell (by exact sz36) ?_
      refine cvl call43 ?_
      show CallP Try.prog 43 #[.agg (valF vs[i]).toArray] _ w1
      refine (bad_spec vs[i] w1).mono ?_
      rintro _ w2 ⟨rfl, hb2⟩
      have hb2' := below_then hb1 hb2
      cases hg : goodV vs[i] with
      | true =>
        simp only [Bool.not_true]
        (repeat with_reducible first | refine nck ?_ | refine cdT ?_ | refine cdF ?_ | refine gdY ?_ | refine gdFT ?_ | refine gdTF ?_ | refine gdU ?_ | refine gaY ?_ | refine gaFT ?_ | refine gaTF ?_ | refine pickT ?_ | refine pickF ?_ | refine bi_lss_t (by omega) ?_ | refine bi_lss_f (by omega) ?_ | refine bi_add64 (by omega) ?_ | refine bi_sub64 (by omega) ?_ | refine bi_eql_t (by omega) ?_ | refine bi_eql_f (by omega) ?_ | refine bi_neq_t (by omega) ?_ | refine bi_neq_f (by omega) ?_ | refine bi_gtr_t (by omega) ?_ | refine bi_gtr_f (by omega) ?_ | refine bi_leq_t (by omega) ?_ | refine bi_leq_f (by omega) ?_ | refine bi_geq_t (by omega) ?_ | refine bi_geq_f (by omega) ?_ | refine bi_xt0 ?_ | refine bi_xt1 ?_ | refine bi_xt2 ?_ | refine bi_xt3 ?_ | refine bi_T ?_ | refine bi_F ?_ | refine bi_not ?_ | refine bi_and ?_ | refine bi_or ?_ | refine bi_xor ?_ | refine bi_shr (by omega) (by decide) ?_ | refine bi_shl (by omega) (by decide) ?_ | refine bi_quo64 (by omega) ?_ | refine bi_rem64 (by omega) ?_ | refine bi_mul64 (by omega) ?_ | refine bi_neg ?_ | refine bi_un_xor32 ?_ | refine bi_add ?_ | refine bi_sub ?_ | refine bi_mul ?_ | refine bi_quo (by decide) ?_ | refine bi_rem (by decide) ?_)
        refine hJ _ _ ⟨i + 1, by omega, by simp, fun x hx => ?_, hb2'⟩ (by simp [intOf]; omega)
        rw [List.take_succ_eq_append_getElem hi'] at hx
        rcases List.mem_append.1 hx with hx | hx
        · exact hall x hx
        · simp only [List.mem_cons, List.not_mem_nil, or_false] at hx
          subst hx; exact hg
      | false =>
        simp only [Bool.not_false]
        (repeat with_reducible first | refine nck ?_ | refine cdT ?_ | refine cdF ?_ | refine gdY ?_ | refine gdFT ?_ | refine gdTF ?_ | refine gdU ?_ | refine gaY ?_ | refine gaFT ?_ | refine gaTF ?_ | refine pickT ?_ | refine pickF ?_ | refine bi_lss_t (by omega) ?_ | refine bi_lss_f (by omega) ?_ | refine bi_add64 (by omega) ?_ | refine bi_sub64 (by omega) ?_ | refine bi_eql_t (by omega) ?_ | refine bi_eql_f (by omega) ?_ | refine bi_neq_t (by omega) ?_ | refine bi_neq_f (by omega) ?_ | refine bi_gtr_t (by omega) ?_ | refine bi_gtr_f (by omega) ?_ | refine bi_leq_t (by omega) ?_ | refine bi_leq_f (by omega) ?_ | refine bi_geq_t (by omega) ?_ | refine bi_geq_f (by omega) ?_ | refine bi_xt0 ?_ | refine bi_xt1 ?_ | refine bi_xt2 ?_ | refine bi_xt3 ?_ | refine bi_T ?_ | refine bi_F ?_ | refine bi_not ?_ | refine bi_and ?_ | refine bi_or ?_ | refine bi_xor ?_ | refine bi_shr (by omega) (by decide) ?_ | refine bi_shl (by omega) (by decide) ?_ | refine bi_quo64 (by omega) ?_ | refine bi_rem64 (by omega) ?_ | refine bi_mul64 (by omega) ?_ | refine bi_neg ?_ | refine bi_un_xor32 ?_ | refine bi_add ?_ | refine bi_sub ?_ | refine bi_mul ?_ | refine bi_quo (by decide) ?_ | refine bi_rem (by decide) ?_)
        refine ⟨⟨i, rfl, ?_⟩, hb2'⟩
        rw [decide_eq_true (by omega)]
        exact (List.any_eq_true.2 ⟨vs[i], List.getElem_mem hi', by rw [hg]; rfl⟩).symm
    · (repeat with_reducible first | refine nck ?_ | refine cdT ?_ | refine cdF ?_ | refine gdY ?_ | refine gdFT ?_ | refine gdTF ?_ | refine gdU ?_ | refine gaY ?_ | refine gaFT ?_ | refine gaTF ?_ | refine pickT ?_ | refine pickF ?_ | refine bi_lss_t (by omega) ?_ | refine bi_lss_f (by omega) ?_ | refine bi_add64 (by omega) ?_ | refine bi_sub64 (by omega) ?_ | refine bi_eql_t (by omega) ?_ | refine bi_eql_f (by omega) ?_ | refine bi_neq_t (by omega) ?_ | refine bi_neq_f (by omega) ?_ | refine bi_gtr_t (by omega) ?_ | refine bi_gtr_f (by omega) ?_ | refine bi_leq_t (by omega) ?_ | refine bi_leq_f (by omega) ?_ | refine bi_geq_t (by omega) ?_ | refine bi_geq_f (by omega) ?_ | refine bi_xt0 ?_ | refine bi_xt1 ?_ | refine bi_xt2 ?_ | refine bi_xt3 ?_ | refine bi_T ?_ | refine bi_F ?_ | refine bi_not ?_ | refine bi_and ?_ | refine bi_or ?_ | refine bi_xor ?_ | refine bi_shr (by omega) (by decide) ?_ | refine bi_shl (by omega) (by decide) ?_ | refine bi_quo64 (by omega) ?_ | refine bi_rem64 (by omega) ?_ | refine bi_mul64 (by omega) ?_ | refine bi_neg ?_ | refine bi_un_xor32 ?_ | refine bi_add ?_ | refine bi_sub ?_ | refine bi_mul ?_ | refine bi_quo (by decide) ?_ | refine bi_rem (by decide) ?_)
      refine ⟨⟨-1, rfl, ?_⟩, hb1⟩
      have : i = vs.length := by omega
      subst this
      rw [List.take_length] at hall
      rw [decide_eq_false (by omega)]
      symm
      rw [List.any_eq_false]
      intro x hx
      rw [hall x hx]; simp
  refine hidx.mono ?_
  rintro _ w1 ⟨⟨i, rfl, hi⟩, hb1⟩
  refine bi_geq ?_
  exact ⟨by rw [hi], hb1⟩
/-- What is wrong with a record. -/
def chk (vs : List ValT) : Int := firstP [if decide (vs.length = 0) then 1 else 0, if decide (4 < vs.length) then 4 else 0, if (vs.any fun x => !goodV x) then 1 else 0]
theorem check_spec (v : Value) (vs : List ValT) (w : World) (hv : Vals w [v] vs) : CallP Try.prog 25 #[v] (fun r w' => r = .int .i64 (chk vs) ∧ Below w.heap.size w w') w := by
  have hv0 := hv
  obtain ⟨A, c, rfl, hc, hm⟩ := hv.slice
  refine ⟨S25.calls _ _ _ ?_⟩
  unfold S25
  refine ln und24 ?_
  refine bi_eql ?_
  refine (when_spec _ 1 w).mono ?_
  rintro _ _ ⟨rfl, rfl⟩
  refine ln und24 ?_
  refine bi_gtr ?_
  refine (when_spec _ 4 w).mono ?_
  rintro _ _ ⟨rfl, rfl⟩
  refine (any_spec _ vs w hv).mono ?_
  rintro _ w1 ⟨rfl, hb1⟩
  refine (when_spec _ 1 w1).mono ?_
  rintro _ _ ⟨rfl, rfl⟩
  have e1 : decide (((vs.length : Nat) : Int) = 0) = decide (vs.length = 0) := decide_eq_decide.2 (by omega)
  have e2 : decide ((4 : Int) < ((vs.length : Nat) : Int)) = decide (4 < vs.length) := decide_eq_decide.2 (by omega)
  rw [e1, e2]
  unfold chk
  generalize (if decide (vs.length = 0) = true then (1 : Int) else 0) = x1
  generalize (if decide (4 < vs.length) = true then (4 : Int) else 0) = x2
  generalize (if (vs.any fun x => !goodV x) = true then (1 : Int) else 0) = x3
  refine lift (v := .slice (some ⟨w1.heap.size, 0, none⟩) 3 3) (w' := w1.alloc (.cells #[.int .i64 x1, .int .i64 x2, .int .i64 x3] 22)) (by kernel_rfl) ?_
  have ha := (Below.refl w1.heap.size w1).alloc (Nat.le_refl _) (.cells #[.int .i64 x1, .int .i64 x2, .int .i64 x3] 22)
  refine (first_spec _ [x1, x2, x3] _ (Own.new w1 22 [.int .i64 x1, .int .i64 x2, .int .i64 x3] (by simp)).rd (by simp)).mono ?_
  rintro _ _ ⟨rfl, rfl⟩
  exact ⟨rfl, below_then hb1 ha⟩
theorem Floor_tab {hu : Nat} (c : Nat → Nat) (w : World) (g : Nat) (T : List (Int × Cli)) (id : Int) (h : TabC hu c w g T) :
    CallP Try.prog 18 #[.pointer (some ⟨g, 0, none⟩), .int .i64 id] (fun r w' => r = .int .i64 (((getK id T).map (·.fl)).getD 0) ∧ w = w') w := by
  obtain ⟨bm, h⟩ := h
  refine ⟨S18.calls _ _ _ _ ?_⟩
  unfold S18
  have c0 : w.cell? ⟨g, 0, none⟩ = some (.map (some bm)) := h.blk.cell 0
  (repeat with_reducible first | refine fd t0 (by decide) ?_ | refine ld one58 c0 ?_ | refine nck ?_ | refine cdT ?_ | refine cdF ?_ | refine gdY ?_ | refine gdFT ?_ | refine gdTF ?_ | refine gdU ?_ | refine gaY ?_ | refine gaFT ?_ | refine gaTF ?_ | refine pickT ?_ | refine pickF ?_ | refine bi_lss_t (by omega) ?_ | refine bi_lss_f (by omega) ?_ | refine bi_add64 (by omega) ?_ | refine bi_sub64 (by omega) ?_ | refine bi_eql_t (by omega) ?_ | refine bi_eql_f (by omega) ?_ | refine bi_neq_t (by omega) ?_ | refine bi_neq_f (by omega) ?_ | refine bi_gtr_t (by omega) ?_ | refine bi_gtr_f (by omega) ?_ | refine bi_leq_t (by omega) ?_ | refine bi_leq_f (by omega) ?_ | refine bi_geq_t (by omega) ?_ | refine bi_geq_f (by omega) ?_ | refine bi_xt0 ?_ | refine bi_xt1 ?_ | refine bi_xt2 ?_ | refine bi_xt3 ?_ | refine bi_T ?_ | refine bi_F ?_ | refine bi_not ?_ | refine bi_and ?_ | refine bi_or ?_ | refine bi_xor ?_ | refine bi_shr (by omega) (by decide) ?_ | refine bi_shl (by omega) (by decide) ?_ | refine bi_quo64 (by omega) ?_ | refine bi_rem64 (by omega) ?_ | refine bi_mul64 (by omega) ?_ | refine bi_neg ?_ | refine bi_un_xor32 ?_ | refine bi_add ?_ | refine bi_sub ?_ | refine bi_mul ?_ | refine bi_quo (by decide) ?_ | refine bi_rem (by decide) ?_)
  refine lkq und58 und3 z63 h.map ?_
  rw [getK_map (fun C : Cli => Value.pointer (some ⟨C.gc, 0, none⟩))]
  cases hx : getK id T with
  | none =>
    simp only [Option.map_none, Option.getD_none]
    refine ofPR (pr_pnot und63) ?_
    simp only [Option.isSome_none]
    (repeat with_reducible first | refine nck ?_ | refine cdT ?_ | refine cdF ?_ | refine gdY ?_ | refine gdFT ?_ | refine gdTF ?_ | refine gdU ?_ | refine gaY ?_ | refine gaFT ?_ | refine gaTF ?_ | refine pickT ?_ | refine pickF ?_ | refine bi_lss_t (by omega) ?_ | refine bi_lss_f (by omega) ?_ | refine bi_add64 (by omega) ?_ | refine bi_sub64 (by omega) ?_ | refine bi_eql_t (by omega) ?_ | refine bi_eql_f (by omega) ?_ | refine bi_neq_t (by omega) ?_ | refine bi_neq_f (by omega) ?_ | refine bi_gtr_t (by omega) ?_ | refine bi_gtr_f (by omega) ?_ | refine bi_leq_t (by omega) ?_ | refine bi_leq_f (by omega) ?_ | refine bi_geq_t (by omega) ?_ | refine bi_geq_f (by omega) ?_ | refine bi_xt0 ?_ | refine bi_xt1 ?_ | refine bi_xt2 ?_ | refine bi_xt3 ?_ | refine bi_T ?_ | refine bi_F ?_ | refine bi_not ?_ | refine bi_and ?_ | refine bi_or ?_ | refine bi_xor ?_ | refine bi_shr (by omega) (by decide) ?_ | refine bi_shl (by omega) (by decide) ?_ | refine bi_quo64 (by omega) ?_ | refine bi_rem64 (by omega) ?_ | refine bi_mul64 (by omega) ?_ | refine bi_neg ?_ | refine bi_un_xor32 ?_ | refine bi_add ?_ | refine bi_sub ?_ | refine bi_mul ?_ | refine bi_quo (by decide) ?_ | refine bi_rem (by decide) ?_)
    first | exact ⟨rfl, rfl⟩ | exact ⟨trivial, rfl⟩
  | some C =>
    simp only [Option.map_some, Option.getD_some]
    refine ofPR (pr_pnot und63) ?_
    have hC := (h.el _ (getK_mem _ _ _ hx)).2
    have e0 : w.cell? ⟨C.gc, 0, none⟩ = some (.int .i64 C.fl) := hC.blk.cell 0
    simp only [Option.isSome_some]
    (repeat with_reducible first | refine fd k0 (by decide) ?_ | refine ld one3 e0 ?_ | refine nck ?_ | refine cdT ?_ | refine cdF ?_ | refine gdY ?_ | refine gdFT ?_ | refine gdTF ?_ | refine gdU ?_ | refine gaY ?_ | refine gaFT ?_ | refine gaTF ?_ | refine pickT ?_ | refine pickF ?_ | refine bi_lss_t (by omega) ?_ | refine bi_lss_f (by omega) ?_ | refine bi_add64 (by omega) ?_ | refine bi_sub64 (by omega) ?_ | refine bi_eql_t (by omega) ?_ | refine bi_eql_f (by omega) ?_ | refine bi_neq_t (by omega) ?_ | refine bi_neq_f (by omega) ?_ | refine bi_gtr_t (by omega) ?_ | refine bi_gtr_f (by omega) ?_ | refine bi_leq_t (by omega) ?_ | refine bi_leq_f (by omega) ?_ | refine bi_geq_t (by omega) ?_ | refine bi_geq_f (by omega) ?_ | refine bi_xt0 ?_ | refine bi_xt1 ?_ | refine bi_xt2 ?_ | refine bi_xt3 ?_ | refine bi_T ?_ | refine bi_F ?_ | refine bi_not ?_ | refine bi_and ?_ | refine bi_or ?_ | refine bi_xor ?_ | refine bi_shr (by omega) (by decide) ?_ | refine bi_shl (by omega) (by decide) ?_ | refine bi_quo64 (by omega) ?_ | refine bi_rem64 (by omega) ?_ | refine bi_mul64 (by omega) ?_ | refine bi_neg ?_ | refine bi_un_xor32 ?_ | refine bi_add ?_ | refine bi_sub ?_ | refine bi_mul ?_ | refine bi_quo (by decide) ?_ | refine bi_rem (by decide) ?_)
    exact ⟨rfl, rfl⟩
end Go.Proofs.Ytmnaggdhkggjhaa.E
/- Keep. -/
namespace Go.Proofs.Ytmnaggdhkggjhaa.E
open Go Go.RowKit
set_option linter.unusedSimpArgs false
set_option linter.unusedVariables false

theorem TabAt.upd {hu : Nat} {c : Nat → Nat} {w w' : World} {g bm : Nat} {T : List (Int × Cli)} {F : Nat → Prop} {id : Int} {C C' : Cli} (h : TabAt hu c w g bm T) (hx : getK id T = some C) (hT : Turns F w w') (hF : ∀ k, F k → c k = hueC hu id)
    (hC : CliAt c (hueC hu id) w' C') (hgc : C'.gc = C.gc) : TabAt hu c w' g bm (setK id C' T) := by
  have hid := (h.el _ (getK_mem _ _ _ hx)).1
  have hnd : (T.map (·.1)).Nodup := by
    have := h.map.nodup
    rwa [List.map_map] at this
  refine ⟨h.hh, h.hue, h.huem, h.blk.turns hT (fun e => by have := hF g e; rw [h.hue] at this; exact hueC_ne hu _ this.symm), ?_, fun p hp => ?_⟩
  · rw [setK_same (fun C : Cli => Value.pointer (some ⟨C.gc, 0, none⟩)) (by rw [hgc]) hx]
    exact h.map.turns hT (fun e => by have := hF bm e; rw [h.huem] at this; exact hueC_ne hu _ this.symm)
  · rcases setK_mem' hnd hp with rfl | ⟨hp, hne⟩
    · exact ⟨hid, hC⟩
    · have h0 := (h.el p hp).1
      exact ⟨h0, (h.el p hp).2.turns hT (fun k hk e => hne (hueC_inj h0 hid ((e.symm).trans (hF k hk))))⟩
/-- Is a request no request? -/
def argP (id n : Int) (R : Rep) (vs : List ValT) (rows : Nat) : Bool :=
  badP id n || decide (0 < rows) || !decide (0 ≤ R.code ∧ R.code ≤ 1099511627776) || !decide (0 ≤ R.id ∧ R.id ≤ 1099511627776) || (decide (0 < vs.length) && decide (chk vs ≠ 0))
theorem lookP_arg (T : List (Int × Cli)) (id n : Int) : (lookP T id n).1 = 1 ↔ badP id n = true := by
  unfold lookP
  cases badP id n
  · simp only [Bool.false_eq_true, if_false]
    constructor
    · intro h
      split at h
      · cases h
      · split at h
        · cases h
        · split at h <;> cases h
    · intro h; cases h
  · simp
/-- What a keeping leaves. -/
def KeepPost (hu : Nat) (c : Nat → Nat) (w : World) (g : Nat) (T : List (Int × Cli)) (id n : Int) (R : Rep) (vs : List ValT) (rows : Nat) (r : Value) (w' : World) : Prop :=
  if argP id n R vs rows = true then r = .int .i64 1 ∧ LeftT hu c w g T w'
  else if (lookP T id n).1 = 12 then r = .int .i64 12 ∧ LeftT hu c w g T w'
  else if (lookP T id n).1 = 0 then r = .int .i64 8 ∧ LeftT hu c w g T w'
  else r = .int .i64 0 ∧ ∃ (C : Cli) (T1 : List (Int × Cli)) (p' : Value), getK id T1 = some C ∧ (match getK id T with | some C0 => T1 = T ∧ C = C0 | none => T1 = T ++ [(id, C)] ∧ C.fl = 0 ∧ C.l = []) ∧
    LeftT hu c w g (setK id ⟨C.gc, C.br, (trimP C.fl (C.l ++ [(n, ⟨R, p', vs⟩)])).1, (trimP C.fl (C.l ++ [(n, ⟨R, p', vs⟩)])).2⟩ T1) w'
theorem LeftT.of_below {hu : Nat} {c : Nat → Nat} {w w' : World} {g : Nat} {T : List (Int × Cli)} (h : TabC hu c w g T) (hb : Below w.heap.size w w') : LeftT hu c w g T w' := ⟨c, fun _ _ => rfl, h.below hb, Turns.of_below hb⟩
theorem und27 : Try.prog.underlying 22 = some (.int .i64) := und22
theorem Keep_tab {hu : Nat} (c : Nat → Nat) (w : World) (g : Nat) (T : List (Int × Cli)) (id n : Int) (R : Rep) (p q : Value) (vs : List ValT) (rows : List RowT) (h : TabC hu c w g T)
    (hp : Vals w [p] vs) (hpc : vs = [] ∨ ∀ k, p.ownBlock = some k → c k % 1000 ≠ hu) (hq : RowsR w [q] rows) (hvl : vs.length ≤ 1000) (hTl : T.length < 1000000) (hcl : ∀ C, (id, C) ∈ T → C.l.length ≤ 100000) :
    CallP Try.prog 11 #[.pointer (some ⟨g, 0, none⟩), .int .i64 id, .int .i64 n, .agg (R.cells p q)] (KeepPost hu c w g T id n R vs rows.length) w := by
  obtain ⟨A, cA, rfl, _, hmA⟩ := hp.slice
  obtain ⟨A', cA', rfl, _, hmA'⟩ := hq.slice
  refine ⟨S11.calls _ _ _ _ _ _ ?_⟩
  unfold S11
  refine bx ?_
  have hB : Blk (w.alloc (.cells (Value.agg (R.cells (.slice A vs.length cA) (.slice A' rows.length cA'))).cells 27)) w.heap.size 27 (R.cells (.slice A vs.length cA) (.slice A' rows.length cA')) := Blk.new w 27 _
  have ha := (Below.refl w.heap.size w).alloc (Nat.le_refl _) (.cells (Value.agg (R.cells (.slice A vs.length cA) (.slice A' rows.length cA'))).cells 27)
  generalize w.alloc (.cells (Value.agg (R.cells (.slice A vs.length cA) (.slice A' rows.length cA'))).cells 27) = w1 at *
  have hc0 := col_lt c w.heap.size 0
  have h1 : TabC hu (col c w.heap.size 0) w1 g T := (h.re hc0).below ha
  refine (Look_tab _ w1 g T id n h1).mono ?_
  rintro _ w2 ⟨p2, rfl, hop2, hfp2, hb2⟩
  have hb2' := below_then ha hb2
  have hB2 := hB.below' hb2
  have h1p : p2.oneCell' = true := by obtain ⟨A, e⟩ := hop2.slice; rw [e]; rfl
  obtain ⟨er, her⟩ : ∃ er, (lookP T id n).1 = er := ⟨_, rfl⟩
  rw [her]
  (repeat with_reducible first | refine nck ?_ | refine cdT ?_ | refine cdF ?_ | refine gdY ?_ | refine gdFT ?_ | refine gdTF ?_ | refine gdU ?_ | refine gaY ?_ | refine gaFT ?_ | refine gaTF ?_ | refine pickT ?_ | refine pickF ?_ | refine bi_lss_t (by omega) ?_ | refine bi_lss_f (by omega) ?_ | refine bi_add64 (by omega) ?_ | refine bi_sub64 (by omega) ?_ | refine bi_eql_t (by omega) ?_ | refine bi_eql_f (by omega) ?_ | refine bi_neq_t (by omega) ?_ | refine bi_neq_f (by omega) ?_ | refine bi_gtr_t (by omega) ?_ | refine bi_gtr_f (by omega) ?_ | refine bi_leq_t (by omega) ?_ | refine bi_leq_f (by omega) ?_ | refine bi_geq_t (by omega) ?_ | refine bi_geq_f (by omega) ?_ | refine bi_xt0 ?_ | refine bi_xt1 ?_ | refine bi_xt2 ?_ | refine bi_xt3 ?_ | refine bi_T ?_ | refine bi_F ?_ | refine bi_not ?_ | refine bi_and ?_ | refine bi_or ?_ | refine bi_xor ?_ | refine bi_shr (by omega) (by decide) ?_ | refine bi_shl (by omega) (by decide) ?_ | refine bi_quo64 (by omega) ?_ | refine bi_rem64 (by omega) ?_ | refine bi_mul64 (by omega) ?_ | refine bi_neg ?_ | refine bi_un_xor32 ?_ | refine bi_add ?_ | refine bi_sub ?_ | refine bi_mul ?_ | refine bi_quo (by decide) ?_ | refine bi_rem (by decide) ?_)
  refine newRep h1p rfl ?_
  intro w3 _ hb3
  have hb3' := below_then hb2' hb3
  have hB3 := hB2.below' hb3
  have h3 : TabC hu (col c w.heap.size 0) w3 g T := (h1.below hb2).below hb3
  have hbadE : er = 1 ↔ badP id n = true := by rw [← her]; exact lookP_arg T id n
  refine JoinP.cut (fun v w' => v = [.bool (argP id n R vs rows.length)] ∧ Below w3.heap.size w3 w') (fun J hJ => ?_) (fun v w' hI => ?_)
  · refine bi_eql_c (fun h1 => ?_) (fun h1 => ?_)
    · (repeat with_reducible first | refine nck ?_ | refine cdT ?_ | refine cdF ?_ | refine gdY ?_ | refine gdFT ?_ | refine gdTF ?_ | refine gdU ?_ | refine gaY ?_ | refine gaFT ?_ | refine gaTF ?_ | refine pickT ?_ | refine pickF ?_ | refine bi_lss_t (by omega) ?_ | refine bi_lss_f (by omega) ?_ | refine bi_add64 (by omega) ?_ | refine bi_sub64 (by omega) ?_ | refine bi_eql_t (by omega) ?_ | refine bi_eql_f (by omega) ?_ | refine bi_neq_t (by omega) ?_ | refine bi_neq_f (by omega) ?_ | refine bi_gtr_t (by omega) ?_ | refine bi_gtr_f (by omega) ?_ | refine bi_leq_t (by omega) ?_ | refine bi_leq_f (by omega) ?_ | refine bi_geq_t (by omega) ?_ | refine bi_geq_f (by omega) ?_ | refine bi_xt0 ?_ | refine bi_xt1 ?_ | refine bi_xt2 ?_ | refine bi_xt3 ?_ | refine bi_T ?_ | refine bi_F ?_ | refine bi_not ?_ | refine bi_and ?_ | refine bi_or ?_ | refine bi_xor ?_ | refine bi_shr (by omega) (by decide) ?_ | refine bi_shl (by omega) (by decide) ?_ | refine bi_quo64 (by omega) ?_ | refine bi_rem64 (by omega) ?_ | refine bi_mul64 (by omega) ?_ | refine bi_neg ?_ | refine bi_un_xor32 ?_ | refine bi_add ?_ | refine bi_sub ?_ | refine bi_mul ?_ | refine bi_quo (by decide) ?_ | refine bi_rem (by decide) ?_)
      refine hJ _ _ ⟨?_, Below.refl _ _⟩
      rw [argP, hbadE.1 h1]; rfl
    have hbad : badP id n = false := by
      cases hb : badP id n
      · rfl
      · exact absurd (hbadE.2 hb) h1
    have c3 : w3.cell? ⟨w.heap.size, 3, none⟩ = some (.slice A' rows.length cA') := hB3.cell 3
    have c0 : w3.cell? ⟨w.heap.size, 0, none⟩ = some (.int .i64 R.code) := hB3.cell 0
    have c4 : w3.cell? ⟨w.heap.size, 4, none⟩ = some (.int .i64 R.id) := hB3.cell 4
    have c2 : w3.cell? ⟨w.heap.size, 2, none⟩ = some (.slice A vs.length cA) := hB3.cell 2
    (repeat with_reducible first | refine fd r3 (by decide) ?_ | refine ld one25 c3 ?_ | refine nck ?_ | refine cdT ?_ | refine cdF ?_ | refine gdY ?_ | refine gdFT ?_ | refine gdTF ?_ | refine gdU ?_ | refine gaY ?_ | refine gaFT ?_ | refine gaTF ?_ | refine pickT ?_ | refine pickF ?_ | refine bi_lss_t (by omega) ?_ | refine bi_lss_f (by omega) ?_ | refine bi_add64 (by omega) ?_ | refine bi_sub64 (by omega) ?_ | refine bi_eql_t (by omega) ?_ | refine bi_eql_f (by omega) ?_ | refine bi_neq_t (by omega) ?_ | refine bi_neq_f (by omega) ?_ | refine bi_gtr_t (by omega) ?_ | refine bi_gtr_f (by omega) ?_ | refine bi_leq_t (by omega) ?_ | refine bi_leq_f (by omega) ?_ | refine bi_geq_t (by omega) ?_ | refine bi_geq_f (by omega) ?_ | refine bi_xt0 ?_ | refine bi_xt1 ?_ | refine bi_xt2 ?_ | refine bi_xt3 ?_ | refine bi_T ?_ | refine bi_F ?_ | refine bi_not ?_ | refine bi_and ?_ | refine bi_or ?_ | refine bi_xor ?_ | refine bi_shr (by omega) (by decide) ?_ | refine bi_shl (by omega) (by decide) ?_ | refine bi_quo64 (by omega) ?_ | refine bi_rem64 (by omega) ?_ | refine bi_mul64 (by omega) ?_ | refine bi_neg ?_ | refine bi_un_xor32 ?_ | refine bi_add ?_ | refine bi_sub ?_ | refine bi_mul ?_ | refine bi_quo (by decide) ?_ | refine bi_rem (by decide) ?_)
    refine ln und25 ?_
    refine bi_gtr_c (fun h2 => ?_) (fun h2 => ?_)
    · (repeat with_reducible first | refine nck ?_ | refine cdT ?_ | refine cdF ?_ | refine gdY ?_ | refine gdFT ?_ | refine gdTF ?_ | refine gdU ?_ | refine gaY ?_ | refine gaFT ?_ | refine gaTF ?_ | refine pickT ?_ | refine pickF ?_ | refine bi_lss_t (by omega) ?_ | refine bi_lss_f (by omega) ?_ | refine bi_add64 (by omega) ?_ | refine bi_sub64 (by omega) ?_ | refine bi_eql_t (by omega) ?_ | refine bi_eql_f (by omega) ?_ | refine bi_neq_t (by omega) ?_ | refine bi_neq_f (by omega) ?_ | refine bi_gtr_t (by omega) ?_ | refine bi_gtr_f (by omega) ?_ | refine bi_leq_t (by omega) ?_ | refine bi_leq_f (by omega) ?_ | refine bi_geq_t (by omega) ?_ | refine bi_geq_f (by omega) ?_ | refine bi_xt0 ?_ | refine bi_xt1 ?_ | refine bi_xt2 ?_ | refine bi_xt3 ?_ | refine bi_T ?_ | refine bi_F ?_ | refine bi_not ?_ | refine bi_and ?_ | refine bi_or ?_ | refine bi_xor ?_ | refine bi_shr (by omega) (by decide) ?_ | refine bi_shl (by omega) (by decide) ?_ | refine bi_quo64 (by omega) ?_ | refine bi_rem64 (by omega) ?_ | refine bi_mul64 (by omega) ?_ | refine bi_neg ?_ | refine bi_un_xor32 ?_ | refine bi_add ?_ | refine bi_sub ?_ | refine bi_mul ?_ | refine bi_quo (by decide) ?_ | refine bi_rem (by decide) ?_)
      refine hJ _ _ ⟨?_, Below.refl _ _⟩
      rw [argP, hbad, decide_eq_true (show 0 < rows.length by omega)]; rfl
    have hr0 : decide (0 < rows.length) = false := decide_eq_false (by omega)
    (repeat with_reducible first | refine fd r0 (by decide) ?_ | refine ld one22 c0 ?_ | refine nck ?_ | refine cdT ?_ | refine cdF ?_ | refine gdY ?_ | refine gdFT ?_ | refine gdTF ?_ | refine gdU ?_ | refine gaY ?_ | refine gaFT ?_ | refine gaTF ?_ | refine pickT ?_ | refine pickF ?_ | refine bi_lss_t (by omega) ?_ | refine bi_lss_f (by omega) ?_ | refine bi_add64 (by omega) ?_ | refine bi_sub64 (by omega) ?_ | refine bi_eql_t (by omega) ?_ | refine bi_eql_f (by omega) ?_ | refine bi_neq_t (by omega) ?_ | refine bi_neq_f (by omega) ?_ | refine bi_gtr_t (by omega) ?_ | refine bi_gtr_f (by omega) ?_ | refine bi_leq_t (by omega) ?_ | refine bi_leq_f (by omega) ?_ | refine bi_geq_t (by omega) ?_ | refine bi_geq_f (by omega) ?_ | refine bi_xt0 ?_ | refine bi_xt1 ?_ | refine bi_xt2 ?_ | refine bi_xt3 ?_ | refine bi_T ?_ | refine bi_F ?_ | refine bi_not ?_ | refine bi_and ?_ | refine bi_or ?_ | refine bi_xor ?_ | refine bi_shr (by omega) (by decide) ?_ | refine bi_shl (by omega) (by decide) ?_ | refine bi_quo64 (by omega) ?_ | refine bi_rem64 (by omega) ?_ | refine bi_mul64 (by omega) ?_ | refine bi_neg ?_ | refine bi_un_xor32 ?_ | refine bi_add ?_ | refine bi_sub ?_ | refine bi_mul ?_ | refine bi_quo (by decide) ?_ | refine bi_rem (by decide) ?_)
    refine (within_spec R.code 0 w3).mono ?_
    rintro _ _ ⟨rfl, rfl⟩
    refine bi_not ?_
    by_cases h4 : 0 ≤ R.code ∧ R.code ≤ 1099511627776
    · rw [decide_eq_true h4]
      simp only [Bool.not_true]
      (repeat with_reducible first | refine nck ?_ | refine cdT ?_ | refine cdF ?_ | refine gdY ?_ | refine gdFT ?_ | refine gdTF ?_ | refine gdU ?_ | refine gaY ?_ | refine gaFT ?_ | refine gaTF ?_ | refine pickT ?_ | refine pickF ?_ | refine bi_lss_t (by omega) ?_ | refine bi_lss_f (by omega) ?_ | refine bi_add64 (by omega) ?_ | refine bi_sub64 (by omega) ?_ | refine bi_eql_t (by omega) ?_ | refine bi_eql_f (by omega) ?_ | refine bi_neq_t (by omega) ?_ | refine bi_neq_f (by omega) ?_ | refine bi_gtr_t (by omega) ?_ | refine bi_gtr_f (by omega) ?_ | refine bi_leq_t (by omega) ?_ | refine bi_leq_f (by omega) ?_ | refine bi_geq_t (by omega) ?_ | refine bi_geq_f (by omega) ?_ | refine bi_xt0 ?_ | refine bi_xt1 ?_ | refine bi_xt2 ?_ | refine bi_xt3 ?_ | refine bi_T ?_ | refine bi_F ?_ | refine bi_not ?_ | refine bi_and ?_ | refine bi_or ?_ | refine bi_xor ?_ | refine bi_shr (by omega) (by decide) ?_ | refine bi_shl (by omega) (by decide) ?_ | refine bi_quo64 (by omega) ?_ | refine bi_rem64 (by omega) ?_ | refine bi_mul64 (by omega) ?_ | refine bi_neg ?_ | refine bi_un_xor32 ?_ | refine bi_add ?_ | refine bi_sub ?_ | refine bi_mul ?_ | refine bi_quo (by decide) ?_ | refine bi_rem (by decide) ?_)
      refine fd r4 (by decide) ?_
      refine ld one3 c4 ?_
      refine (within_spec R.id 0 w3).mono ?_
      rintro _ _ ⟨rfl, rfl⟩
      refine bi_not ?_
      by_cases h5 : 0 ≤ R.id ∧ R.id ≤ 1099511627776
      · rw [decide_eq_true h5]
        simp only [Bool.not_true]
        (repeat with_reducible first | refine nck ?_ | refine cdT ?_ | refine cdF ?_ | refine gdY ?_ | refine gdFT ?_ | refine gdTF ?_ | refine gdU ?_ | refine gaY ?_ | refine gaFT ?_ | refine gaTF ?_ | refine pickT ?_ | refine pickF ?_ | refine bi_lss_t (by omega) ?_ | refine bi_lss_f (by omega) ?_ | refine bi_add64 (by omega) ?_ | refine bi_sub64 (by omega) ?_ | refine bi_eql_t (by omega) ?_ | refine bi_eql_f (by omega) ?_ | refine bi_neq_t (by omega) ?_ | refine bi_neq_f (by omega) ?_ | refine bi_gtr_t (by omega) ?_ | refine bi_gtr_f (by omega) ?_ | refine bi_leq_t (by omega) ?_ | refine bi_leq_f (by omega) ?_ | refine bi_geq_t (by omega) ?_ | refine bi_geq_f (by omega) ?_ | refine bi_xt0 ?_ | refine bi_xt1 ?_ | refine bi_xt2 ?_ | refine bi_xt3 ?_ | refine bi_T ?_ | refine bi_F ?_ | refine bi_not ?_ | refine bi_and ?_ | refine bi_or ?_ | refine bi_xor ?_ | refine bi_shr (by omega) (by decide) ?_ | refine bi_shl (by omega) (by decide) ?_ | refine bi_quo64 (by omega) ?_ | refine bi_rem64 (by omega) ?_ | refine bi_mul64 (by omega) ?_ | refine bi_neg ?_ | refine bi_un_xor32 ?_ | refine bi_add ?_ | refine bi_sub ?_ | refine bi_mul ?_ | refine bi_quo (by decide) ?_ | refine bi_rem (by decide) ?_)
        refine fd r2 (by decide) ?_
        refine ld one24 c2 ?_
        refine ln und24 ?_
        refine bi_gtr_c (fun h6 => ?_) (fun h6 => ?_)
        · (repeat with_reducible first | refine nck ?_ | refine cdT ?_ | refine cdF ?_ | refine gdY ?_ | refine gdFT ?_ | refine gdTF ?_ | refine gdU ?_ | refine gaY ?_ | refine gaFT ?_ | refine gaTF ?_ | refine pickT ?_ | refine pickF ?_ | refine bi_lss_t (by omega) ?_ | refine bi_lss_f (by omega) ?_ | refine bi_add64 (by omega) ?_ | refine bi_sub64 (by omega) ?_ | refine bi_eql_t (by omega) ?_ | refine bi_eql_f (by omega) ?_ | refine bi_neq_t (by omega) ?_ | refine bi_neq_f (by omega) ?_ | refine bi_gtr_t (by omega) ?_ | refine bi_gtr_f (by omega) ?_ | refine bi_leq_t (by omega) ?_ | refine bi_leq_f (by omega) ?_ | refine bi_geq_t (by omega) ?_ | refine bi_geq_f (by omega) ?_ | refine bi_xt0 ?_ | refine bi_xt1 ?_ | refine bi_xt2 ?_ | refine bi_xt3 ?_ | refine bi_T ?_ | refine bi_F ?_ | refine bi_not ?_ | refine bi_and ?_ | refine bi_or ?_ | refine bi_xor ?_ | refine bi_shr (by omega) (by decide) ?_ | refine bi_shl (by omega) (by decide) ?_ | refine bi_quo64 (by omega) ?_ | refine bi_rem64 (by omega) ?_ | refine bi_mul64 (by omega) ?_ | refine bi_neg ?_ | refine bi_un_xor32 ?_ | refine bi_add ?_ | refine bi_sub ?_ | refine bi_mul ?_ | refine bi_quo (by decide) ?_ | refine bi_rem (by decide) ?_)
          refine fd r2 (by decide) ?_
          (repeat with_reducible first | refine nck ?_ | refine cdT ?_ | refine cdF ?_ | refine gdY ?_ | refine gdFT ?_ | refine gdTF ?_ | refine gdU ?_ | refine gaY ?_ | refine gaFT ?_ | refine gaTF ?_ | refine pickT ?_ | refine pickF ?_ | refine bi_lss_t (by omega) ?_ | refine bi_lss_f (by omega) ?_ | refine bi_add64 (by omega) ?_ | refine bi_sub64 (by omega) ?_ | refine bi_eql_t (by omega) ?_ | refine bi_eql_f (by omega) ?_ | refine bi_neq_t (by omega) ?_ | refine bi_neq_f (by omega) ?_ | refine bi_gtr_t (by omega) ?_ | refine bi_gtr_f (by omega) ?_ | refine bi_leq_t (by omega) ?_ | refine bi_leq_f (by omega) ?_ | refine bi_geq_t (by omega) ?_ | refine bi_geq_f (by omega) ?_ | refine bi_xt0 ?_ | refine bi_xt1 ?_ | refine bi_xt2 ?_ | refine bi_xt3 ?_ | refine bi_T ?_ | refine bi_F ?_ | refine bi_not ?_ | refine bi_and ?_ | refine bi_or ?_ | refine bi_xor ?_ | refine bi_shr (by omega) (by decide) ?_ | refine bi_shl (by omega) (by decide) ?_ | refine bi_quo64 (by omega) ?_ | refine bi_rem64 (by omega) ?_ | refine bi_mul64 (by omega) ?_ | refine bi_neg ?_ | refine bi_un_xor32 ?_ | refine bi_add ?_ | refine bi_sub ?_ | refine bi_mul ?_ | refine bi_quo (by decide) ?_ | refine bi_rem (by decide) ?_)
          refine ld one24 c2 ?_
          (repeat with_reducible first | refine nck ?_ | refine cdT ?_ | refine cdF ?_ | refine gdY ?_ | refine gdFT ?_ | refine gdTF ?_ | refine gdU ?_ | refine gaY ?_ | refine gaFT ?_ | refine gaTF ?_ | refine pickT ?_ | refine pickF ?_ | refine bi_lss_t (by omega) ?_ | refine bi_lss_f (by omega) ?_ | refine bi_add64 (by omega) ?_ | refine bi_sub64 (by omega) ?_ | refine bi_eql_t (by omega) ?_ | refine bi_eql_f (by omega) ?_ | refine bi_neq_t (by omega) ?_ | refine bi_neq_f (by omega) ?_ | refine bi_gtr_t (by omega) ?_ | refine bi_gtr_f (by omega) ?_ | refine bi_leq_t (by omega) ?_ | refine bi_leq_f (by omega) ?_ | refine bi_geq_t (by omega) ?_ | refine bi_geq_f (by omega) ?_ | refine bi_xt0 ?_ | refine bi_xt1 ?_ | refine bi_xt2 ?_ | refine bi_xt3 ?_ | refine bi_T ?_ | refine bi_F ?_ | refine bi_not ?_ | refine bi_and ?_ | refine bi_or ?_ | refine bi_xor ?_ | refine bi_shr (by omega) (by decide) ?_ | refine bi_shl (by omega) (by decide) ?_ | refine bi_quo64 (by omega) ?_ | refine bi_rem64 (by omega) ?_ | refine bi_mul64 (by omega) ?_ | refine bi_neg ?_ | refine bi_un_xor32 ?_ | refine bi_add ?_ | refine bi_sub ?_ | refine bi_mul ?_ | refine bi_quo (by decide) ?_ | refine bi_rem (by decide) ?_)
          refine (check_spec _ vs w3 (keeps_Vals _ _ _ _ hb3' hp)).mono ?_
          rintro _ w4 ⟨rfl, hb4⟩
          (repeat with_reducible first | refine nck ?_ | refine cdT ?_ | refine cdF ?_ | refine gdY ?_ | refine gdFT ?_ | refine gdTF ?_ | refine gdU ?_ | refine gaY ?_ | refine gaFT ?_ | refine gaTF ?_ | refine pickT ?_ | refine pickF ?_ | refine bi_lss_t (by omega) ?_ | refine bi_lss_f (by omega) ?_ | refine bi_add64 (by omega) ?_ | refine bi_sub64 (by omega) ?_ | refine bi_eql_t (by omega) ?_ | refine bi_eql_f (by omega) ?_ | refine bi_neq_t (by omega) ?_ | refine bi_neq_f (by omega) ?_ | refine bi_gtr_t (by omega) ?_ | refine bi_gtr_f (by omega) ?_ | refine bi_leq_t (by omega) ?_ | refine bi_leq_f (by omega) ?_ | refine bi_geq_t (by omega) ?_ | refine bi_geq_f (by omega) ?_ | refine bi_xt0 ?_ | refine bi_xt1 ?_ | refine bi_xt2 ?_ | refine bi_xt3 ?_ | refine bi_T ?_ | refine bi_F ?_ | refine bi_not ?_ | refine bi_and ?_ | refine bi_or ?_ | refine bi_xor ?_ | refine bi_shr (by omega) (by decide) ?_ | refine bi_shl (by omega) (by decide) ?_ | refine bi_quo64 (by omega) ?_ | refine bi_rem64 (by omega) ?_ | refine bi_mul64 (by omega) ?_ | refine bi_neg ?_ | refine bi_un_xor32 ?_ | refine bi_add ?_ | refine bi_sub ?_ | refine bi_mul ?_ | refine bi_quo (by decide) ?_ | refine bi_rem (by decide) ?_)
          refine bi_neq ?_
          (repeat with_reducible first | refine nck ?_ | refine cdT ?_ | refine cdF ?_ | refine gdY ?_ | refine gdFT ?_ | refine gdTF ?_ | refine gdU ?_ | refine gaY ?_ | refine gaFT ?_ | refine gaTF ?_ | refine pickT ?_ | refine pickF ?_ | refine bi_lss_t (by omega) ?_ | refine bi_lss_f (by omega) ?_ | refine bi_add64 (by omega) ?_ | refine bi_sub64 (by omega) ?_ | refine bi_eql_t (by omega) ?_ | refine bi_eql_f (by omega) ?_ | refine bi_neq_t (by omega) ?_ | refine bi_neq_f (by omega) ?_ | refine bi_gtr_t (by omega) ?_ | refine bi_gtr_f (by omega) ?_ | refine bi_leq_t (by omega) ?_ | refine bi_leq_f (by omega) ?_ | refine bi_geq_t (by omega) ?_ | refine bi_geq_f (by omega) ?_ | refine bi_xt0 ?_ | refine bi_xt1 ?_ | refine bi_xt2 ?_ | refine bi_xt3 ?_ | refine bi_T ?_ | refine bi_F ?_ | refine bi_not ?_ | refine bi_and ?_ | refine bi_or ?_ | refine bi_xor ?_ | refine bi_shr (by omega) (by decide) ?_ | refine bi_shl (by omega) (by decide) ?_ | refine bi_quo64 (by omega) ?_ | refine bi_rem64 (by omega) ?_ | refine bi_mul64 (by omega) ?_ | refine bi_neg ?_ | refine bi_un_xor32 ?_ | refine bi_add ?_ | refine bi_sub ?_ | refine bi_mul ?_ | refine bi_quo (by decide) ?_ | refine bi_rem (by decide) ?_)
          refine hJ _ _ ⟨?_, hb4⟩
          rw [argP, hbad, hr0, decide_eq_true h4, decide_eq_true h5, decide_eq_true (show 0 < vs.length by omega)]
          simp
        · (repeat with_reducible first | refine nck ?_ | refine cdT ?_ | refine cdF ?_ | refine gdY ?_ | refine gdFT ?_ | refine gdTF ?_ | refine gdU ?_ | refine gaY ?_ | refine gaFT ?_ | refine gaTF ?_ | refine pickT ?_ | refine pickF ?_ | refine bi_lss_t (by omega) ?_ | refine bi_lss_f (by omega) ?_ | refine bi_add64 (by omega) ?_ | refine bi_sub64 (by omega) ?_ | refine bi_eql_t (by omega) ?_ | refine bi_eql_f (by omega) ?_ | refine bi_neq_t (by omega) ?_ | refine bi_neq_f (by omega) ?_ | refine bi_gtr_t (by omega) ?_ | refine bi_gtr_f (by omega) ?_ | refine bi_leq_t (by omega) ?_ | refine bi_leq_f (by omega) ?_ | refine bi_geq_t (by omega) ?_ | refine bi_geq_f (by omega) ?_ | refine bi_xt0 ?_ | refine bi_xt1 ?_ | refine bi_xt2 ?_ | refine bi_xt3 ?_ | refine bi_T ?_ | refine bi_F ?_ | refine bi_not ?_ | refine bi_and ?_ | refine bi_or ?_ | refine bi_xor ?_ | refine bi_shr (by omega) (by decide) ?_ | refine bi_shl (by omega) (by decide) ?_ | refine bi_quo64 (by omega) ?_ | refine bi_rem64 (by omega) ?_ | refine bi_mul64 (by omega) ?_ | refine bi_neg ?_ | refine bi_un_xor32 ?_ | refine bi_add ?_ | refine bi_sub ?_ | refine bi_mul ?_ | refine bi_quo (by decide) ?_ | refine bi_rem (by decide) ?_)
          refine hJ _ _ ⟨?_, Below.refl _ _⟩
          rw [argP, hbad, hr0, decide_eq_true h4, decide_eq_true h5, decide_eq_false (show ¬ 0 < vs.length by omega)]
          rfl
      · rw [decide_eq_false h5]
        simp only [Bool.not_false]
        (repeat with_reducible first | refine nck ?_ | refine cdT ?_ | refine cdF ?_ | refine gdY ?_ | refine gdFT ?_ | refine gdTF ?_ | refine gdU ?_ | refine gaY ?_ | refine gaFT ?_ | refine gaTF ?_ | refine pickT ?_ | refine pickF ?_ | refine bi_lss_t (by omega) ?_ | refine bi_lss_f (by omega) ?_ | refine bi_add64 (by omega) ?_ | refine bi_sub64 (by omega) ?_ | refine bi_eql_t (by omega) ?_ | refine bi_eql_f (by omega) ?_ | refine bi_neq_t (by omega) ?_ | refine bi_neq_f (by omega) ?_ | refine bi_gtr_t (by omega) ?_ | refine bi_gtr_f (by omega) ?_ | refine bi_leq_t (by omega) ?_ | refine bi_leq_f (by omega) ?_ | refine bi_geq_t (by omega) ?_ | refine bi_geq_f (by omega) ?_ | refine bi_xt0 ?_ | refine bi_xt1 ?_ | refine bi_xt2 ?_ | refine bi_xt3 ?_ | refine bi_T ?_ | refine bi_F ?_ | refine bi_not ?_ | refine bi_and ?_ | refine bi_or ?_ | refine bi_xor ?_ | refine bi_shr (by omega) (by decide) ?_ | refine bi_shl (by omega) (by decide) ?_ | refine bi_quo64 (by omega) ?_ | refine bi_rem64 (by omega) ?_ | refine bi_mul64 (by omega) ?_ | refine bi_neg ?_ | refine bi_un_xor32 ?_ | refine bi_add ?_ | refine bi_sub ?_ | refine bi_mul ?_ | refine bi_quo (by decide) ?_ | refine bi_rem (by decide) ?_)
        refine hJ _ _ ⟨?_, Below.refl _ _⟩
        rw [argP, hbad, hr0, decide_eq_true h4, decide_eq_false h5]; rfl
    · rw [decide_eq_false h4]
      simp only [Bool.not_false]
      (repeat with_reducible first | refine nck ?_ | refine cdT ?_ | refine cdF ?_ | refine gdY ?_ | refine gdFT ?_ | refine gdTF ?_ | refine gdU ?_ | refine gaY ?_ | refine gaFT ?_ | refine gaTF ?_ | refine pickT ?_ | refine pickF ?_ | refine bi_lss_t (by omega) ?_ | refine bi_lss_f (by omega) ?_ | refine bi_add64 (by omega) ?_ | refine bi_sub64 (by omega) ?_ | refine bi_eql_t (by omega) ?_ | refine bi_eql_f (by omega) ?_ | refine bi_neq_t (by omega) ?_ | refine bi_neq_f (by omega) ?_ | refine bi_gtr_t (by omega) ?_ | refine bi_gtr_f (by omega) ?_ | refine bi_leq_t (by omega) ?_ | refine bi_leq_f (by omega) ?_ | refine bi_geq_t (by omega) ?_ | refine bi_geq_f (by omega) ?_ | refine bi_xt0 ?_ | refine bi_xt1 ?_ | refine bi_xt2 ?_ | refine bi_xt3 ?_ | refine bi_T ?_ | refine bi_F ?_ | refine bi_not ?_ | refine bi_and ?_ | refine bi_or ?_ | refine bi_xor ?_ | refine bi_shr (by omega) (by decide) ?_ | refine bi_shl (by omega) (by decide) ?_ | refine bi_quo64 (by omega) ?_ | refine bi_rem64 (by omega) ?_ | refine bi_mul64 (by omega) ?_ | refine bi_neg ?_ | refine bi_un_xor32 ?_ | refine bi_add ?_ | refine bi_sub ?_ | refine bi_mul ?_ | refine bi_quo (by decide) ?_ | refine bi_rem (by decide) ?_)
      refine hJ _ _ ⟨?_, Below.refl _ _⟩
      rw [argP, hbad, hr0, decide_eq_false h4]; rfl
  · obtain ⟨rfl, hbv⟩ := hI
    have hbv' := below_then hb3' hbv
    have h4 := h3.below hbv
    have hB4 := hB3.below' hbv
    dsimp only [List.headD_cons, List.tail_cons]
    unfold KeepPost
    cases harg : argP id n R vs rows.length with
    | true =>
      (repeat with_reducible first | refine nck ?_ | refine cdT ?_ | refine cdF ?_ | refine gdY ?_ | refine gdFT ?_ | refine gdTF ?_ | refine gdU ?_ | refine gaY ?_ | refine gaFT ?_ | refine gaTF ?_ | refine pickT ?_ | refine pickF ?_ | refine bi_lss_t (by omega) ?_ | refine bi_lss_f (by omega) ?_ | refine bi_add64 (by omega) ?_ | refine bi_sub64 (by omega) ?_ | refine bi_eql_t (by omega) ?_ | refine bi_eql_f (by omega) ?_ | refine bi_neq_t (by omega) ?_ | refine bi_neq_f (by omega) ?_ | refine bi_gtr_t (by omega) ?_ | refine bi_gtr_f (by omega) ?_ | refine bi_leq_t (by omega) ?_ | refine bi_leq_f (by omega) ?_ | refine bi_geq_t (by omega) ?_ | refine bi_geq_f (by omega) ?_ | refine bi_xt0 ?_ | refine bi_xt1 ?_ | refine bi_xt2 ?_ | refine bi_xt3 ?_ | refine bi_T ?_ | refine bi_F ?_ | refine bi_not ?_ | refine bi_and ?_ | refine bi_or ?_ | refine bi_xor ?_ | refine bi_shr (by omega) (by decide) ?_ | refine bi_shl (by omega) (by decide) ?_ | refine bi_quo64 (by omega) ?_ | refine bi_rem64 (by omega) ?_ | refine bi_mul64 (by omega) ?_ | refine bi_neg ?_ | refine bi_un_xor32 ?_ | refine bi_add ?_ | refine bi_sub ?_ | refine bi_mul ?_ | refine bi_quo (by decide) ?_ | refine bi_rem (by decide) ?_)
      rw [if_pos rfl]
      exact ⟨rfl, LeftT.of_below h hbv'⟩
    | false =>
    (repeat with_reducible first | refine nck ?_ | refine cdT ?_ | refine cdF ?_ | refine gdY ?_ | refine gdFT ?_ | refine gdTF ?_ | refine gdU ?_ | refine gaY ?_ | refine gaFT ?_ | refine gaTF ?_ | refine pickT ?_ | refine pickF ?_ | refine bi_lss_t (by omega) ?_ | refine bi_lss_f (by omega) ?_ | refine bi_add64 (by omega) ?_ | refine bi_sub64 (by omega) ?_ | refine bi_eql_t (by omega) ?_ | refine bi_eql_f (by omega) ?_ | refine bi_neq_t (by omega) ?_ | refine bi_neq_f (by omega) ?_ | refine bi_gtr_t (by omega) ?_ | refine bi_gtr_f (by omega) ?_ | refine bi_leq_t (by omega) ?_ | refine bi_leq_f (by omega) ?_ | refine bi_geq_t (by omega) ?_ | refine bi_geq_f (by omega) ?_ | refine bi_xt0 ?_ | refine bi_xt1 ?_ | refine bi_xt2 ?_ | refine bi_xt3 ?_ | refine bi_T ?_ | refine bi_F ?_ | refine bi_not ?_ | refine bi_and ?_ | refine bi_or ?_ | refine bi_xor ?_ | refine bi_shr (by omega) (by decide) ?_ | refine bi_shl (by omega) (by decide) ?_ | refine bi_quo64 (by omega) ?_ | refine bi_rem64 (by omega) ?_ | refine bi_mul64 (by omega) ?_ | refine bi_neg ?_ | refine bi_un_xor32 ?_ | refine bi_add ?_ | refine bi_sub ?_ | refine bi_mul ?_ | refine bi_quo (by decide) ?_ | refine bi_rem (by decide) ?_)
    refine bi_eql_c (fun e12 => ?_) (fun e12 => ?_)
    · (repeat with_reducible first | refine nck ?_ | refine cdT ?_ | refine cdF ?_ | refine gdY ?_ | refine gdFT ?_ | refine gdTF ?_ | refine gdU ?_ | refine gaY ?_ | refine gaFT ?_ | refine gaTF ?_ | refine pickT ?_ | refine pickF ?_ | refine bi_lss_t (by omega) ?_ | refine bi_lss_f (by omega) ?_ | refine bi_add64 (by omega) ?_ | refine bi_sub64 (by omega) ?_ | refine bi_eql_t (by omega) ?_ | refine bi_eql_f (by omega) ?_ | refine bi_neq_t (by omega) ?_ | refine bi_neq_f (by omega) ?_ | refine bi_gtr_t (by omega) ?_ | refine bi_gtr_f (by omega) ?_ | refine bi_leq_t (by omega) ?_ | refine bi_leq_f (by omega) ?_ | refine bi_geq_t (by omega) ?_ | refine bi_geq_f (by omega) ?_ | refine bi_xt0 ?_ | refine bi_xt1 ?_ | refine bi_xt2 ?_ | refine bi_xt3 ?_ | refine bi_T ?_ | refine bi_F ?_ | refine bi_not ?_ | refine bi_and ?_ | refine bi_or ?_ | refine bi_xor ?_ | refine bi_shr (by omega) (by decide) ?_ | refine bi_shl (by omega) (by decide) ?_ | refine bi_quo64 (by omega) ?_ | refine bi_rem64 (by omega) ?_ | refine bi_mul64 (by omega) ?_ | refine bi_neg ?_ | refine bi_un_xor32 ?_ | refine bi_add ?_ | refine bi_sub ?_ | refine bi_mul ?_ | refine bi_quo (by decide) ?_ | refine bi_rem (by decide) ?_)
      rw [if_neg Bool.false_ne_true, her, if_pos e12, e12]
      exact ⟨rfl, LeftT.of_below h hbv'⟩
    (repeat with_reducible first | refine nck ?_ | refine cdT ?_ | refine cdF ?_ | refine gdY ?_ | refine gdFT ?_ | refine gdTF ?_ | refine gdU ?_ | refine gaY ?_ | refine gaFT ?_ | refine gaTF ?_ | refine pickT ?_ | refine pickF ?_ | refine bi_lss_t (by omega) ?_ | refine bi_lss_f (by omega) ?_ | refine bi_add64 (by omega) ?_ | refine bi_sub64 (by omega) ?_ | refine bi_eql_t (by omega) ?_ | refine bi_eql_f (by omega) ?_ | refine bi_neq_t (by omega) ?_ | refine bi_neq_f (by omega) ?_ | refine bi_gtr_t (by omega) ?_ | refine bi_gtr_f (by omega) ?_ | refine bi_leq_t (by omega) ?_ | refine bi_leq_f (by omega) ?_ | refine bi_geq_t (by omega) ?_ | refine bi_geq_f (by omega) ?_ | refine bi_xt0 ?_ | refine bi_xt1 ?_ | refine bi_xt2 ?_ | refine bi_xt3 ?_ | refine bi_T ?_ | refine bi_F ?_ | refine bi_not ?_ | refine bi_and ?_ | refine bi_or ?_ | refine bi_xor ?_ | refine bi_shr (by omega) (by decide) ?_ | refine bi_shl (by omega) (by decide) ?_ | refine bi_quo64 (by omega) ?_ | refine bi_rem64 (by omega) ?_ | refine bi_mul64 (by omega) ?_ | refine bi_neg ?_ | refine bi_un_xor32 ?_ | refine bi_add ?_ | refine bi_sub ?_ | refine bi_mul ?_ | refine bi_quo (by decide) ?_ | refine bi_rem (by decide) ?_)
    refine bi_eql_c (fun e0 => ?_) (fun e0 => ?_)
    · (repeat with_reducible first | refine nck ?_ | refine cdT ?_ | refine cdF ?_ | refine gdY ?_ | refine gdFT ?_ | refine gdTF ?_ | refine gdU ?_ | refine gaY ?_ | refine gaFT ?_ | refine gaTF ?_ | refine pickT ?_ | refine pickF ?_ | refine bi_lss_t (by omega) ?_ | refine bi_lss_f (by omega) ?_ | refine bi_add64 (by omega) ?_ | refine bi_sub64 (by omega) ?_ | refine bi_eql_t (by omega) ?_ | refine bi_eql_f (by omega) ?_ | refine bi_neq_t (by omega) ?_ | refine bi_neq_f (by omega) ?_ | refine bi_gtr_t (by omega) ?_ | refine bi_gtr_f (by omega) ?_ | refine bi_leq_t (by omega) ?_ | refine bi_leq_f (by omega) ?_ | refine bi_geq_t (by omega) ?_ | refine bi_geq_f (by omega) ?_ | refine bi_xt0 ?_ | refine bi_xt1 ?_ | refine bi_xt2 ?_ | refine bi_xt3 ?_ | refine bi_T ?_ | refine bi_F ?_ | refine bi_not ?_ | refine bi_and ?_ | refine bi_or ?_ | refine bi_xor ?_ | refine bi_shr (by omega) (by decide) ?_ | refine bi_shl (by omega) (by decide) ?_ | refine bi_quo64 (by omega) ?_ | refine bi_rem64 (by omega) ?_ | refine bi_mul64 (by omega) ?_ | refine bi_neg ?_ | refine bi_un_xor32 ?_ | refine bi_add ?_ | refine bi_sub ?_ | refine bi_mul ?_ | refine bi_quo (by decide) ?_ | refine bi_rem (by decide) ?_)
      rw [if_neg Bool.false_ne_true, her, if_neg e12, if_pos e0]
      exact ⟨rfl, LeftT.of_below h hbv'⟩
    (repeat with_reducible first | refine nck ?_ | refine cdT ?_ | refine cdF ?_ | refine gdY ?_ | refine gdFT ?_ | refine gdTF ?_ | refine gdU ?_ | refine gaY ?_ | refine gaFT ?_ | refine gaTF ?_ | refine pickT ?_ | refine pickF ?_ | refine bi_lss_t (by omega) ?_ | refine bi_lss_f (by omega) ?_ | refine bi_add64 (by omega) ?_ | refine bi_sub64 (by omega) ?_ | refine bi_eql_t (by omega) ?_ | refine bi_eql_f (by omega) ?_ | refine bi_neq_t (by omega) ?_ | refine bi_neq_f (by omega) ?_ | refine bi_gtr_t (by omega) ?_ | refine bi_gtr_f (by omega) ?_ | refine bi_leq_t (by omega) ?_ | refine bi_leq_f (by omega) ?_ | refine bi_geq_t (by omega) ?_ | refine bi_geq_f (by omega) ?_ | refine bi_xt0 ?_ | refine bi_xt1 ?_ | refine bi_xt2 ?_ | refine bi_xt3 ?_ | refine bi_T ?_ | refine bi_F ?_ | refine bi_not ?_ | refine bi_and ?_ | refine bi_or ?_ | refine bi_xor ?_ | refine bi_shr (by omega) (by decide) ?_ | refine bi_shl (by omega) (by decide) ?_ | refine bi_quo64 (by omega) ?_ | refine bi_rem64 (by omega) ?_ | refine bi_mul64 (by omega) ?_ | refine bi_neg ?_ | refine bi_un_xor32 ?_ | refine bi_add ?_ | refine bi_sub ?_ | refine bi_mul ?_ | refine bi_quo (by decide) ?_ | refine bi_rem (by decide) ?_)
    -- it is kept
    have hbad : badP id n = false := by
      unfold argP at harg
      cases hb : badP id n
      · rfl
      · rw [hb] at harg; simp at harg
    have hidn : (0 ≤ id ∧ id ≤ 1099511627776) ∧ (1 ≤ n ∧ n ≤ 1099511627776) := by
      simpa [badP] using hbad
    refine (client_tab _ w' g T id h4 ⟨hidn.1.1, by omega⟩ hTl).mono ?_
    rintro _ w5 ⟨C, T1, rfl, hx, hT1, c5, hc5, ⟨bm, h5⟩, hT5⟩
    have hxl : getK n C.l = none := by
      have hk : lookP T id n = match getK id T with
          | none => (7, none)
          | some C => if n ≤ C.fl then (12, none) else match getK n C.l with
            | some m => (0, some m)
            | none => (7, none) := by rw [lookP, hbad]; rfl
      cases hg : getK id T with
      | none =>
        rw [hg] at hT1
        rw [hT1.2.2]; rfl
      | some C0 =>
        rw [hg] at hT1 hk
        rw [hT1.2]
        simp only at hk
        rw [hk] at her
        split at her
        · exact absurd her.symm e12
        · split at her
          · exact absurd her.symm e0
          · assumption
    have hlC : C.l.length ≤ 100000 := by
      cases hg : getK id T with
      | none =>
        rw [hg] at hT1
        rw [hT1.2.2]; simp
      | some C0 =>
        rw [hg] at hT1
        have := hcl C0 (getK_mem _ _ _ hg)
        rw [hT1.2]; exact this
    have hwl : w.heap.size < w3.heap.size := hB3.lt
    have hwl' : w.heap.size < w'.heap.size := hB4.lt
    obtain ⟨hh1, hh2⟩ := h5.hh
    have hB5 : Blk w5 w.heap.size 27 (R.cells (.slice A vs.length cA) (.slice A' rows.length cA')) := hB4.turns hT5 (fun hF => by rw [Dh, col_ge _ _ _ (Nat.le_refl _)] at hF; omega)
    have hC5 := (h5.el _ (getK_mem _ _ _ hx)).2
    simp only at hC5
    have hdr : Below w5.heap.size w5 w5.drew := (Below.refl _ _).drew
    have sm : ∀ w', (Blk w' C.gc 68 #[.int .i64 C.fl, .map (some C.br)] ∧ Blk w' w.heap.size 27 (R.cells (.slice A vs.length cA) (.slice A' rows.length cA'))) → w'.cell? ⟨C.gc, 1, none⟩ = some (.map (some C.br)) := fun w' h => h.1.cell 1
    refine draw (fun w' => Blk w' C.gc 68 #[.int .i64 C.fl, .map (some C.br)] ∧ Blk w' w.heap.size 27 (R.cells (.slice A vs.length cA) (.slice A' rows.length cA'))) ⟨hC5.blk.below' hdr, hB5.below' hdr⟩ ?_
    (repeat with_reducible first | refine yfd k1 (by decide) ?_ | refine yl1 one66 sm ?_ | refine ynck ?_ | refine nck ?_ | refine cdT ?_ | refine cdF ?_ | refine gdY ?_ | refine gdFT ?_ | refine gdTF ?_ | refine gdU ?_ | refine gaY ?_ | refine gaFT ?_ | refine gaTF ?_ | refine pickT ?_ | refine pickF ?_ | refine yi_lss_t (by omega) ?_ | refine yi_lss_f (by omega) ?_ | refine yi_add64 (by omega) ?_ | refine yi_sub64 (by omega) ?_ | refine yi_eql_t (by omega) ?_ | refine yi_eql_f (by omega) ?_ | refine yi_neq_t (by omega) ?_ | refine yi_neq_f (by omega) ?_ | refine yi_gtr_t (by omega) ?_ | refine yi_gtr_f (by omega) ?_ | refine yi_leq_t (by omega) ?_ | refine yi_leq_f (by omega) ?_ | refine yi_geq_t (by omega) ?_ | refine yi_geq_f (by omega) ?_ | refine yi_xt0 ?_ | refine yi_xt1 ?_ | refine yi_xt2 ?_ | refine yi_xt3 ?_ | refine yi_T ?_ | refine yi_F ?_ | refine yi_not ?_ | refine yi_and ?_ | refine yi_or ?_ | refine yi_xor ?_ | refine yi_shr (by omega) (by decide) ?_ | refine yi_shl (by omega) (by decide) ?_ | refine yi_quo64 (by omega) ?_ | refine yi_rem64 (by omega) ?_ | refine yi_mul64 (by omega) ?_ | refine yi_neg ?_ | refine yi_un_xor32 ?_ | refine yi_add ?_ | refine yi_sub ?_ | refine yi_mul ?_ | refine yi_quo (by decide) ?_ | refine yi_rem (by decide) ?_)
    refine yldA agg27 (fun w' h => h.2) (by exact sz27) ?_
    refine act ?_
    -- its values read on
    have hTw5 : Turns (Dh hu c) w w5 := (Turns.of_below hbv').stepH hc0 hT5
    have hp5 : Vals w5 [.slice A vs.length cA] vs := by
      refine rRow.turns rVal_all (keeps_Vals _ _ _ _ hbv' hp) (by decide) hT5 (hpc.imp (fun h => h) fun hpc k hk hD => ?_)
      rcases Nat.lt_or_ge k w.heap.size with hlt | hge
      · rw [Dh, hc0 k hlt] at hD; exact hpc k hk hD
      · rw [Dh, col_ge _ _ _ hge] at hD; omega
    have hpd : Vals w5.drew [.slice A vs.length cA] vs := keeps_Vals _ _ _ _ hdr hp5
    refine (copied_spec R _ _ vs w5.drew hpd rfl (by omega)).mono ?_
    rintro _ w6 ⟨p6, rfl, hop6, hfp6, hb6⟩
    have hb56 : Below w5.heap.size w5 w6 := below_then hdr hb6
    refine ⟨_, ⟨hC5.blk.below' hb56, hB5.below' hb56⟩, fun _ h => h, ?_⟩
    have hs5 := hT5.size
    have hsb := hbv'.size
    have hok := vals_ok hp
    have hc6 : ∀ k, k < w5.heap.size → col c5 w5.heap.size (hueC hu id) k = c5 k := col_lt c5 w5.heap.size _
    have h6 : TabAt hu (col c5 w5.heap.size (hueC hu id)) w5 g bm T1 := h5.re hc6
    have hC6 : CliAt (col c5 w5.heap.size (hueC hu id)) (hueC hu id) w6 C := ((h6.el _ (getK_mem _ _ _ hx)).2).below hb56
    have hrp6 : RpAt (col c5 w5.heap.size (hueC hu id)) (hueC hu id) w6 ⟨R, p6, vs⟩ := ⟨hop6, InC.fresh hfp6, hok, hvl⟩
    have hnone : getK n (C.l.map fun p => (p.1, p.2.val)) = none := by rw [getK_map Rp.val, hxl]; rfl
    refine mup und66 und3 hC6.map (wf64 (by omega)) (by rw [List.length_map]; simp only [maxLen]; omega) ?_
    intro w7 hm7 hT7
    rw [setK_new _ _ _ hnone] at hm7
    have hne6 : C.gc ≠ C.br := map_ne hC6.blk hC6.map
    have hC7 : CliAt (col c5 w5.heap.size (hueC hu id)) (hueC hu id) w7 ⟨C.gc, C.br, C.fl, C.l ++ [(n, ⟨R, p6, vs⟩)]⟩ := by
      refine ⟨hC6.hue, hC6.huem, hC6.blk.turns hT7 hne6, ?_, fun p hp => ?_⟩
      · rw [List.map_append]; exact hm7
      · rcases List.mem_append.1 hp with hp | hp
        · exact (hC6.el p hp).turns hT7 (fun k hk e => own_nem (hC6.el p hp).own hC6.map (by rw [← e]; exact hk))
        · simp only [List.mem_cons, List.not_mem_nil, or_false] at hp
          subst hp
          exact hrp6.turns hT7 (fun k hk e => own_nem hrp6.own hC6.map (by rw [← e]; exact hk))
    refine (trim_spec _ _ _ w7 hC7 (by simp only [List.length_append, List.length_cons, List.length_nil]; omega)).mono ?_
    rintro _ w8 ⟨hC8, hT8⟩
    rw [if_neg Bool.false_ne_true, her, if_neg e12, if_neg e0]
    refine ⟨rfl, C, T1, p6, hx, hT1, ?_⟩
    have hT58 : Turns (fun k => k = C.gc ∨ k = C.br) w5 w8 := ((Turns.of_below hb56).trans (hT7.mono fun k _ e => .inl (.inr e))).trans (hT8.mono fun k _ e => .inl e)
    have hFc : ∀ k, (k = C.gc ∨ k = C.br) → col c5 w5.heap.size (hueC hu id) k = hueC hu id := by
      rintro k (rfl | rfl)
      · exact hC6.hue
      · exact hC6.huem
    have hag : ∀ k, k < w.heap.size → col c5 w5.heap.size (hueC hu id) k = c k := fun k hk => by
      rw [hc6 k (by omega), hc5 k (by omega), hc0 k hk]
    refine ⟨_, hag, ⟨bm, h6.upd hx hT58 hFc hC8 rfl⟩, hTw5.trans (hT58.mono fun k hk e => ?_)⟩
    rcases Nat.lt_or_ge k w.heap.size with hlt | hge
    · left
      show c k % 1000 = hu
      rw [← hag k hlt, hFc k e, hueC_mod hh2]
    · exact .inr hge
end Go.Proofs.Ytmnaggdhkggjhaa.E
/- What is known of clients, told without memory: a client's floor, and its answers by rising numbers. -/
namespace Go.Proofs.Ytmnaggdhkggjhaa.E
open Go Go.RowKit
set_option linter.unusedSimpArgs false
set_option linter.unusedVariables false

/-! ### rows of keys and values, by rising keys -/
theorem getK_none_mem {α : Type} (k : Int) : ∀ l : List (Int × α), getK k l = none → ∀ p ∈ l, p.1 ≠ k
  | [], _, p, hp => by simp at hp
  | (a, u) :: r, h, p, hp => by
    rw [getK] at h
    split at h
    · cases h
    · rename_i hk
      rcases List.mem_cons.1 hp with rfl | hp
      · exact fun e => hk e.symm
      · exact getK_none_mem k r h p hp
theorem getK_none_of {α : Type} (k : Int) : ∀ l : List (Int × α), (∀ p ∈ l, p.1 ≠ k) → getK k l = none
  | [], _ => rfl
  | (a, u) :: r, h => by
    rw [getK, if_neg (fun e => h (a, u) (by simp) e.symm)]
    exact getK_none_of k r fun p hp => h p (by simp [hp])
theorem getK_perm {α : Type} {l l' : List (Int × α)} (h : l.Perm l') (hn : (l'.map (·.1)).Nodup) (k : Int) : getK k l = getK k l' := by
  cases hx : getK k l with
  | none =>
    refine (getK_none_of k l' fun p hp => ?_).symm
    exact getK_none_mem k l hx p (h.mem_iff.2 hp)
  | some v => exact (getK_of_mem hn (h.mem_iff.1 (getK_mem k v l hx))).symm
def insK {α : Type} (n : Int) (x : α) : List (Int × α) → List (Int × α)
  | [] => [(n, x)]
  | (a, u) :: r => if n < a then (n, x) :: (a, u) :: r else (a, u) :: insK n x r
theorem insK_perm {α : Type} (n : Int) (x : α) : ∀ l : List (Int × α), (insK n x l).Perm ((n, x) :: l)
  | [] => List.Perm.refl _
  | (a, u) :: r => by
    rw [insK]
    split
    · exact List.Perm.refl _
    · exact ((insK_perm n x r).cons (a, u)).trans (List.Perm.swap _ _ _)
def Rising {α : Type} (l : List (Int × α)) : Prop := l.Pairwise fun p q => p.1 < q.1
theorem insK_rising {α : Type} (n : Int) (x : α) : ∀ l : List (Int × α), Rising l → (∀ p ∈ l, p.1 ≠ n) → Rising (insK n x l)
  | [], _, _ => by simp [insK, Rising]
  | (a, u) :: r, h, hne => by
    obtain ⟨h1, h2⟩ := List.pairwise_cons.1 h
    rw [insK]
    split
    · rename_i hlt
      refine List.pairwise_cons.2 ⟨fun p hp => ?_, h⟩
      rcases List.mem_cons.1 hp with rfl | hp
      · exact hlt
      · have := h1 p hp; simp only at this ⊢; omega
    · rename_i hlt
      refine List.pairwise_cons.2 ⟨fun p hp => ?_, insK_rising n x r h2 fun p hp => hne p (by simp [hp])⟩
      have hna := hne (a, u) (by simp)
      rcases List.mem_cons.1 ((insK_perm n x r).mem_iff.1 hp) with rfl | hp
      · simp only at hna ⊢; omega
      · exact h1 p hp
theorem Rising.nodup {α : Type} {l : List (Int × α)} (h : Rising l) : (l.map (·.1)).Nodup := by
  refine List.pairwise_map.2 (h.imp fun hlt e => ?_)
  omega
theorem insK_len {α : Type} (n : Int) (x : α) (l : List (Int × α)) : (insK n x l).length = l.length + 1 := by rw [(insK_perm n x l).length_eq]; rfl

/-! ### a client's view -/
abbrev Rm := Rep × List ValT
abbrev VC := Int × List (Int × Rm)
def Rp.abs (m : Rp) : Rm := (m.R, m.vs)
def absL (l : List (Int × Rp)) : List (Int × Rm) := l.map fun p => (p.1, p.2.abs)
structure GoodV (v : VC) : Prop where
  rise : Rising v.2
  len : v.2.length ≤ 4
  above : ∀ p ∈ v.2, v.1 < p.1
  ok : ∀ p ∈ v.2, ∀ x ∈ p.2.2, valOk x
  key : ∀ p ∈ v.2, 1 ≤ p.1 ∧ p.1 ≤ 1099511627776
  fl : 0 ≤ v.1 ∧ v.1 ≤ 1099511627776
theorem goodV0 : GoodV (0, []) := ⟨List.Pairwise.nil, by simp, fun p hp => by simp at hp, fun p hp => by simp at hp, fun p hp => by simp at hp, by simp⟩
def lookV (v : VC) (n : Int) : Int × Option Rm := if n ≤ v.1 then (12, none) else match getK n v.2 with
  | some m => (0, some m)
  | none => (7, none)
/-- What is too much is forgotten. -/
def cutV (fl : Int) (l : List (Int × Rm)) : VC := match l with
  | [] => (fl, [])
  | p :: r => if 4 < (p :: r).length then (p.1, r) else (fl, p :: r)
def putV (v : VC) (n : Int) (x : Rm) : VC := cutV v.1 (insK n x v.2)
theorem putV_good {v : VC} (h : GoodV v) {n : Int} {x : Rm} (hn : v.1 < n) (hk : 1 ≤ n ∧ n ≤ 1099511627776) (hne : ∀ p ∈ v.2, p.1 ≠ n) (hx : ∀ y ∈ x.2, valOk y) : GoodV (putV v n x) := by
  have hr := insK_rising n x v.2 h.rise hne
  have hl := insK_len n x v.2
  have hm : ∀ p ∈ insK n x v.2, p = (n, x) ∨ p ∈ v.2 := fun p hp => List.mem_cons.1 ((insK_perm n x v.2).mem_iff.1 hp)
  have h4 := h.len
  unfold putV cutV
  cases he : insK n x v.2 with
  | nil => rw [he] at hl; simp at hl
  | cons p r =>
    rw [he] at hr hl hm
    simp only
    split
    · obtain ⟨h1, h2⟩ := List.pairwise_cons.1 hr
      have hp := hm p (by simp)
      refine ⟨h2, by simp at hl ⊢; omega, fun q hq => h1 q hq, fun q hq => ?_, fun q hq => ?_, ?_⟩
      · rcases hm q (by simp [hq]) with rfl | hq
        · exact hx
        · exact h.ok q hq
      · rcases hm q (by simp [hq]) with rfl | hq
        · exact hk
        · exact h.key q hq
      · rcases hp with rfl | hp
        · simp only; omega
        · have := h.key p hp; simp only; omega
    · rename_i hlen
      refine ⟨hr, by simp only; omega, fun q hq => ?_, fun q hq => ?_, fun q hq => ?_, h.fl⟩
      · rcases hm q hq with rfl | hq
        · exact hn
        · exact h.above q hq
      · rcases hm q hq with rfl | hq
        · exact hx
        · exact h.ok q hq
      · rcases hm q hq with rfl | hq
        · exact hk
        · exact h.key q hq
/-- A client in memory is seen so. -/
structure Sees (C : Cli) (v : VC) : Prop where
  fl : C.fl = v.1
  l : (absL C.l).Perm v.2
theorem absL_keys (l : List (Int × Rp)) : (absL l).map (·.1) = l.map (·.1) := by simp [absL, Function.comp_def]
theorem Sees.keys {C : Cli} {v : VC} (h : Sees C v) : (C.l.map (·.1)).Perm (v.2.map (·.1)) := by
  have := h.l.map (·.1)
  rwa [absL_keys] at this
theorem Sees.get {C : Cli} {v : VC} (h : Sees C v) (hg : GoodV v) (n : Int) : (getK n C.l).map Rp.abs = getK n v.2 := by
  rw [← getK_map Rp.abs]
  exact getK_perm h.l hg.rise.nodup n
theorem Sees.nodup {C : Cli} {v : VC} (h : Sees C v) (hg : GoodV v) : (C.l.map (·.1)).Nodup := h.keys.symm.nodup hg.rise.nodup
theorem minK_head {α β : Type} {l : List (Int × α)} {p : Int × β} {r : List (Int × β)} (hp : (l.map (·.1)).Perm ((p :: r).map (·.1))) (hr : Rising (p :: r)) : minK l = p.1 := by
  have hne : l ≠ [] := fun e => by have := hp.length_eq; rw [e] at this; simp at this
  obtain ⟨q1, q2⟩ := minK_spec l hne
  refine min_unique hp q1 q2 (by simp) fun y hy => ?_
  obtain ⟨q, hq, rfl⟩ := List.mem_map.1 hy
  rcases List.mem_cons.1 hq with rfl | hq
  · exact Int.le_refl _
  · have := (List.pairwise_cons.1 hr).1 q hq; omega
theorem perm_filter_tail {l : List (Int × Rm)} {p : Int × Rm} {r : List (Int × Rm)} (h : l.Perm (p :: r)) (hr : Rising (p :: r)) (hn : (l.map (·.1)).Nodup) : (delK p.1 l).Perm r := by
  rw [delK_filter p.1 l hn]
  have h1 := h.filter fun q => decide (q.1 ≠ p.1)
  refine h1.trans ?_
  rw [List.filter_cons]
  simp only [ne_eq, not_true_eq_false, decide_false, Bool.false_eq_true, if_false]
  rw [List.filter_eq_self.2 fun q hq => ?_]
  have := (List.pairwise_cons.1 hr).1 q hq
  simp only [decide_eq_true_eq]
  omega
/-- A new answer, and the trimming behind it. -/
theorem Sees.put {C : Cli} {v : VC} (h : Sees C v) (hg : GoodV v) {n : Int} {m : Rp} (hn : v.1 < n) (hne : ∀ p ∈ v.2, p.1 ≠ n) (gc br : Nat) :
    Sees ⟨gc, br, (trimP C.fl (C.l ++ [(n, m)])).1, (trimP C.fl (C.l ++ [(n, m)])).2⟩ (putV v n m.abs) := by
  have hall : (C.l ++ [(n, m)]).filter (fun p => decide (C.fl < p.1)) = C.l ++ [(n, m)] := List.filter_eq_self.2 fun p hp => by
    simp only [decide_eq_true_eq]
    rw [h.fl]
    rcases List.mem_append.1 hp with hp | hp
    · have : p.1 ∈ C.l.map (·.1) := List.mem_map.2 ⟨p, hp, rfl⟩
      rw [h.keys.mem_iff] at this
      obtain ⟨q, hq, he⟩ := List.mem_map.1 this
      rw [← he]; exact hg.above q hq
    · simp only [List.mem_cons, List.not_mem_nil, or_false] at hp
      subst hp; exact hn
  have hperm : (absL (C.l ++ [(n, m)])).Perm (insK n m.abs v.2) := by
    refine List.Perm.trans ?_ (insK_perm n m.abs v.2).symm
    unfold absL
    rw [List.map_append]
    refine (List.perm_append_comm).trans ?_
    exact h.l.cons _
  have hr := insK_rising n m.abs v.2 hg.rise hne
  have hlen : (C.l ++ [(n, m)]).length = (insK n m.abs v.2).length := by have := hperm.length_eq; simpa [absL] using this
  have hl5 : (insK n m.abs v.2).length ≤ 5 := by rw [insK_len]; have := hg.len; omega
  have htr : trimP C.fl (C.l ++ [(n, m)]) = shrink (C.l ++ [(n, m)]).length C.fl (C.l ++ [(n, m)]) := by unfold trimP; rw [hall]
  rw [htr]
  generalize C.l ++ [(n, m)] = L at *
  unfold putV cutV
  cases he : insK n m.abs v.2 with
  | nil => have := insK_len n m.abs v.2; rw [he] at this; simp at this
  | cons p r =>
    rw [he] at hperm hr hlen hl5
    simp only
    split
    · rename_i h4
      have hk : minK L = p.1 := minK_head (l := L) (p := p) (r := r) (by have := hperm.map (·.1); rwa [absL_keys] at this) hr
      have hnd : (L.map (·.1)).Nodup := by
        have := (hperm.map (·.1)).symm.nodup hr.nodup
        rwa [absL_keys] at this
      have h5 : L.length = 4 + 1 := by omega
      have hd : (absL (delK p.1 L)).Perm r := by
        unfold absL
        rw [← delK_map Rp.abs]
        exact perm_filter_tail hperm hr (by have := absL_keys L; unfold absL at this; rw [this]; exact hnd)
      have hdl : (delK p.1 L).length ≤ 4 := by
        have := hd.length_eq
        simp only [absL, List.length_map, List.length_cons] at this hl5
        omega
      rw [h5, shrink, if_pos (by omega), hk, shrink_small _ _ _ hdl]
      exact ⟨rfl, hd⟩
    · rename_i h4
      rw [shrink_small _ _ _ (by omega)]
      exact ⟨h.fl, hperm⟩
end Go.Proofs.Ytmnaggdhkggjhaa.E
