import Derived.Test.YtmnaggdhkggjhaaGreatDoorM4
import Derived.Test.YtmnaggdhkggjhaaGreatDoorM5
import Derived.Laws.StructEq
import Derived.Shelf.SlIterI.Nil
import Derived.Shelf.SortM.Plain
import Derived.Shelf.SortM.SortNone
import Derived.Test.YtmnaggdhkggjhaaGreatDoorProg
namespace Go.Proofs.YtmnaggdhkggjhaaGreatDoor.E
open Go Go.RowKit
set_option linter.unusedSimpArgs false
set_option linter.unusedVariables false

abbrev ValT := Int × Int × ByteArray × Unit
def valF (p : ValT) : List Value := [.int .i64 p.1, .int .i64 p.2.1, .string p.2.2.1]
abbrev rVal : Rdr ValT := rCons 1 (rI .i64) (rCons 1 (rI .i64) (rCons 1 rS rNil))
abbrev Vals : Rdr (List ValT) := rRow 3 rVal
abbrev RowT := ByteArray × List ValT × Unit
abbrev rRowT : Rdr RowT := rCons 1 rS (rCons 1 Vals rNil)
abbrev RowsR : Rdr (List RowT) := rRow 2 rRowT
theorem keeps_Vals : Keeps Vals := keeps_Row (keeps_Cons (keeps_I _) (keeps_Cons (keeps_I _) (keeps_Cons keeps_S keeps_Nil)))
theorem keeps_RowsR : Keeps RowsR := keeps_Row (keeps_Cons keeps_S (keeps_Cons keeps_Vals keeps_Nil))
def valOk (p : ValT) : Prop := (Lit.int .i64 p.1).wf = true ∧ (Lit.int .i64 p.2.1).wf = true ∧ p.2.2.1.size ≤ maxLen
theorem val_cells {w : World} {us : List Value} {x : ValT} (h : rVal w us x) : us = valF x ∧ valOk x := by
  obtain ⟨r, rfl, h1, h⟩ := rCons_I h
  obtain ⟨r, rfl, h2, h⟩ := rCons_I h
  obtain ⟨r, rfl, h3, h⟩ := rCons_S h
  have : r = [] := h
  subst this
  exact ⟨rfl, h1, h2, h3⟩
theorem rVal_of {w : World} {x : ValT} (h : valOk x) : rVal w (valF x) x := ⟨⟨rfl, h.1⟩, ⟨rfl, h.2.1⟩, ⟨rfl, h.2.2⟩, rfl⟩
theorem vals_ok {w : World} {v : Value} {l : List ValT} (h : Vals w [v] l) : ∀ p ∈ l, valOk p := by
  intro p hp
  obtain ⟨A, c, he, _, _, h⟩ := h
  obtain ⟨i, hi, rfl⟩ := List.getElem_of_mem hp
  obtain ⟨a, us, _, _, _, hr⟩ := h i l[i] (List.getElem?_eq_getElem hi)
  exact (val_cells hr).2
theorem valF_one : ∀ x : ValT, ∀ u ∈ valF x, u.oneCell' = true := by
  intro x u hu
  simp only [valF, List.mem_cons, List.not_mem_nil, or_false] at hu
  rcases hu with rfl | rfl | rfl <;> rfl
/-- A reply, its rows apart. -/
structure Rep where
  code : Int
  there : Bool
  id : Int
def Rep.cells (R : Rep) (p q : Value) : Array Value := #[.int .i64 R.code, .bool R.there, p, q, .int .i64 R.id]
def zeroRep : Rep := ⟨0, false, 0⟩
theorem und3 : Tryz.prog.underlying 3 = some (.int .i64) := by kernel_rfl
theorem und4 : Tryz.prog.underlying 4 = some .bool := by kernel_rfl
theorem und9 : Tryz.prog.underlying 9 = some .string := by kernel_rfl
theorem und22 : Tryz.prog.underlying 34 = some (.int .i64) := by kernel_rfl
theorem und23 : Tryz.prog.underlying 35 = some (.slice 91) := by kernel_rfl
theorem und24 : Tryz.prog.underlying 36 = some (.slice 91) := by kernel_rfl
theorem und25 : Tryz.prog.underlying 37 = some (.slice 124) := by kernel_rfl
theorem und51 : Tryz.prog.underlying 74 = some (.slice 3) := by kernel_rfl
theorem und97 : Tryz.prog.underlying 112 = some (.slice 34) := by kernel_rfl
theorem sz3 : (Tryz.prog.info? 3).map (·.size) = some 1 := by kernel_rfl
theorem sz22 : (Tryz.prog.info? 34).map (·.size) = some 1 := by kernel_rfl
theorem sz24 : (Tryz.prog.info? 36).map (·.size) = some 1 := by kernel_rfl
theorem sz25 : (Tryz.prog.info? 37).map (·.size) = some 1 := by kernel_rfl
theorem sz27 : (Tryz.prog.info? 39).map (·.size) = some 5 := by kernel_rfl
theorem sz36 : (Tryz.prog.info? 91).map (·.size) = some 3 := by kernel_rfl
theorem agg27 : aggB Tryz.prog 39 = true := by kernel_rfl
theorem agg36 : aggB Tryz.prog 91 = true := by kernel_rfl
theorem one3 : oneB Tryz.prog 3 = true := by kernel_rfl
theorem one4 : oneB Tryz.prog 4 = true := by kernel_rfl
theorem one9 : oneB Tryz.prog 9 = true := by kernel_rfl
theorem one22 : oneB Tryz.prog 34 = true := by kernel_rfl
theorem one24 : oneB Tryz.prog 36 = true := by kernel_rfl
theorem one25 : oneB Tryz.prog 37 = true := by kernel_rfl
theorem z27 : (Tryz.prog.info? 39).bind (·.zero) = some (.agg (zeroRep.cells (.slice none 0 0) (.slice none 0 0))) := by kernel_rfl
theorem inf36 : (Tryz.prog.info? 91).map (fun i => (i.zero, i.size, i.bytes)) = some (some (.agg #[.int .i64 0, .int .i64 0, .string ⟨#[]⟩]), 3, 32) := by kernel_rfl
theorem r0 : fofs Tryz.prog 39 0 = some (0, 1) := by kernel_rfl
theorem r1 : fofs Tryz.prog 39 1 = some (1, 1) := by kernel_rfl
theorem r2 : fofs Tryz.prog 39 2 = some (2, 1) := by kernel_rfl
theorem r3 : fofs Tryz.prog 39 3 = some (3, 1) := by kernel_rfl
theorem r4 : fofs Tryz.prog 39 4 = some (4, 1) := by kernel_rfl
theorem v0 : fofs Tryz.prog 91 0 = some (0, 1) := by kernel_rfl
theorem v1 : fofs Tryz.prog 91 1 = some (1, 1) := by kernel_rfl
theorem v2 : fofs Tryz.prog 91 2 = some (2, 1) := by kernel_rfl
theorem cellsR_one (R : Rep) (p q : Value) (hp : p.oneCell' = true) (hq : q.oneCell' = true) : (R.cells p q).all (·.oneCell') = true := by
  rw [← Array.all_toList]
  simp only [Rep.cells, List.all_cons, hp, hq]
  rfl
theorem setR2 (R : Rep) (p q u : Value) : (R.cells p q).setIfInBounds 2 u = R.cells u q := rfl
theorem setR3 (R : Rep) (p q u : Value) : (R.cells p q).setIfInBounds 3 u = R.cells p u := rfl
theorem newRep {K : Value → World → Prop} {w : World} {R : Rep} {p q : Value} (hp : p.oneCell' = true) (hq : q.oneCell' = true)
    (k : ∀ w', Blk w' w.heap.size 39 (R.cells p q) → Below w.heap.size w w' → K (.pointer (some ⟨w.heap.size, 0, none⟩)) w') :
    LiftP Tryz.prog (Instr.alloc 39 true (.tuple #[])) (fun v w => LiftU Tryz.prog (Instr.storeAt 39 v (.agg (R.cells p q))) (fun _ w => K v w) w) w := by
  refine al z27 ?_
  have hR : Blk (w.alloc (.cells (Value.agg (zeroRep.cells (.slice none 0 0) (.slice none 0 0))).cells 39)) w.heap.size 39 (zeroRep.cells (.slice none 0 0) (.slice none 0 0)) := Blk.new w 39 _
  have ha := (Below.refl w.heap.size w).alloc (Nat.le_refl _) (.cells (Value.agg (zeroRep.cells (.slice none 0 0) (.slice none 0 0))).cells 39)
  refine stA hR (by exact sz27) (by rfl) (cellsR_one _ _ _ hp hq) ?_
  exact k _ (hR.row (R.cells p q)) (below_setRow ha (Nat.le_refl _) _)
theorem within_spec (n m : Int) (w : World) : CallP Tryz.prog 16 #[.int .i64 n, .int .i64 m] (fun r w' => r = .bool (decide (m ≤ n ∧ n ≤ 1099511627776)) ∧ w = w') w := by
  refine ⟨S16.calls _ _ _ _ ?_⟩
  unfold S16
  refine bi_geq_c (fun h => ?_) (fun h => ?_)
  · (repeat with_reducible first|refine z_d ?_)
    refine bi_leq_c (fun h2 => ?_) (fun h2 => ?_)
    · (repeat with_reducible first|refine z_k ?_)
      exact ⟨by rw [decide_eq_true (by omega)], rfl⟩
    · (repeat with_reducible first|refine z_k ?_)
      exact ⟨by rw [decide_eq_false (by omega)], rfl⟩
  · (repeat with_reducible first|refine z_e ?_|refine z_l ?_)
    exact ⟨by rw [decide_eq_false (by omega)], rfl⟩
theorem CloneV_spec (v : Value) (l : List ValT) (w : World) (hv : Vals w [v] l) (hl : l.length ≤ 100000) :
    CallP Tryz.prog 44 #[v] (fun r w' => ∃ A c, r = .slice A l.length c ∧ w'.ownsRow 0 91 3 (.slice A l.length c) l.length (l.flatMap valF) ∧ Fresh w.heap.size (.slice A l.length c) ∧ Below w.heap.size w w') w := by
  have hv0 := hv
  obtain ⟨A, c, rfl, hc1, hc2⟩ := hv.slice
  refine ⟨S44.calls _ _ _ ?_⟩
  unfold S44
  refine ofPR (pr_slnil und24) ?_
  cases A with
  | none =>
    have h0 : l = [] := by
      cases l with
      | nil => rfl
      | cons p r => obtain ⟨a, us, h, _⟩ := rRow.at hv 0 (by simp); cases h
    subst h0
    simp only [Option.isNone_none]
    (repeat with_reducible first|refine z_b ?_)
    exact ⟨none, 0, rfl, ⟨by simp, .inl ⟨rfl, rfl⟩⟩, Fresh.nil _, Below.refl _ w⟩
  | some a =>
    simp only [Option.isNone_some]
    (repeat with_reducible first|refine z_c ?_)
    refine bs0 und24 sz36 ?_
    have ha : Below w.heap.size w (w.alloc (.cells #[] 91)) := (Below.refl _ _).alloc (Nat.le_refl _) _
    have hown : (w.alloc (.cells #[] 91)).ownsRow 0 91 3 (.slice (some ⟨w.heap.size, 0, none⟩) 0 0) 0 [] := ⟨by simp, .inr ⟨w.heap.size, 0, #[], rfl, Nat.zero_le _, heap_alloc_new w _, Nat.le_refl _, Nat.zero_le _, by simp, by simp⟩⟩
    refine apR w.heap.size und24 inf36 (by rfl) (by decide) hown (Fresh.new (Nat.le_refl _) 0 0) ha.size (fun _ => rfl) valF_one (fun w us x h => (val_cells h).1) (keeps_Vals _ _ _ _ ha hv) (by omega) (by omega) ?_
    intro v2 w2 ho2 hf2 hb2 _
    rw [Nat.zero_add, List.nil_append] at ho2
    rcases ho2.2 with ⟨he, h0⟩ | ⟨g, cap, cur, he, _⟩
    · subst he
      rw [h0] at ho2 ⊢
      exact ⟨none, 0, rfl, ho2, Fresh.nil _, ha.trans hb2⟩
    · subst he
      exact ⟨_, _, rfl, ho2, hf2, ha.trans hb2⟩
theorem ClipV_spec {A : Option Addr} {n c : Nat} {cs : List Value} (w : World) (h : w.ownsRow 0 91 3 (.slice A n c) n cs) :
    CallP Tryz.prog 43 #[.slice A n c] (fun r w' => OwnS 3 91 w r n cs ∧ r.ownBlock = (Value.slice A n c).ownBlock ∧ w = w') w := by
  have hnc : n ≤ c := by
    rcases h.2 with ⟨he, h0⟩ | ⟨g, cap, cur, he, _, _, h1, _⟩
    · cases he; omega
    · cases he; exact h1
  refine ⟨S43.calls _ _ _ ?_⟩
  unfold S43
  refine ln und24 ?_
  refine ln und24 ?_
  refine ofPR (pr_cut und24 sz36 .no (.at _ _) (.at _ _) (Nat.zero_le _) (fun h => by cases h) (Nat.le_refl _) hnc (.inr (by simp))) ?_
  obtain ⟨h1, h2⟩ := ownS_cut h
  exact ⟨h1, h2, rfl⟩
theorem copied_spec (R : Rep) (p q : Value) (vs : List ValT) (w : World) (hp : Vals w [p] vs) (hq : q.oneCell' = true) (hl : vs.length ≤ 100000) :
    CallP Tryz.prog 19 #[.agg (R.cells p q)] (fun r w' => ∃ p', r = .agg (R.cells p' (.slice none 0 0)) ∧ OwnS 3 91 w' p' vs.length (vs.flatMap valF) ∧ Fresh w.heap.size p' ∧ Below w.heap.size w w') w := by
  obtain ⟨A, cA, rfl, _, _⟩ := hp.slice
  refine ⟨S19.calls _ _ _ ?_⟩
  unfold S19
  refine bx ?_
  have hL : Blk (w.alloc (.cells (Value.agg (R.cells (.slice A vs.length cA) q)).cells 39)) w.heap.size 39 (R.cells (.slice A vs.length cA) q) := Blk.new w 39 _
  have ha := (Below.refl w.heap.size w).alloc (Nat.le_refl _) (.cells (Value.agg (R.cells (.slice A vs.length cA) q)).cells 39)
  generalize w.alloc (.cells (Value.agg (R.cells (.slice A vs.length cA) q)).cells 39) = w1 at *
  have hs1 : w.heap.size < w1.heap.size := hL.lt
  refine al z27 ?_
  have hR : Blk (w1.alloc (.cells (Value.agg (zeroRep.cells (.slice none 0 0) (.slice none 0 0))).cells 39)) w1.heap.size 39 (zeroRep.cells (.slice none 0 0) (.slice none 0 0)) := Blk.new w1 39 _
  have ha2 := (Below.refl w1.heap.size w1).alloc (Nat.le_refl _) (.cells (Value.agg (zeroRep.cells (.slice none 0 0) (.slice none 0 0))).cells 39)
  have hL2 := hL.below' ha2
  generalize hg1 : w1.heap.size = g1 at *
  generalize w1.alloc (.cells (Value.agg (zeroRep.cells (.slice none 0 0) (.slice none 0 0))).cells 39) = w2 at *
  have hb2 : Below w.heap.size w w2 := ha.trans (ha2.mono (by omega))
  have c2 : w2.cell? ⟨w.heap.size, 2, none⟩ = some (.slice A vs.length cA) := hL2.cell 2
  (repeat with_reducible first|refine fd r2 (by decide) ?_|refine ld one24 c2 ?_)
  refine (CloneV_spec _ vs w2 (keeps_Vals _ _ _ _ hb2 hp) hl).mono ?_
  rintro _ w3 ⟨A3, n3, rfl, ho3, hf3, hb3⟩
  refine (ClipV_spec w3 ho3).mono ?_
  rintro p4 _ ⟨ho4, hbl4, rfl⟩
  have hf4 : Fresh w2.heap.size p4 := fun k hk => hf3 k (by rw [← hbl4]; exact hk)
  have hL3 := hL2.below' hb3
  have hR3 := hR.below' hb3
  have hb3' := below_then hb2 hb3
  have h1p : p4.oneCell' = true := by obtain ⟨A, rfl⟩ := ho4.slice; rfl
  (repeat with_reducible first|refine fd r2 (by decide) ?_)
  refine st sz24 h1p (by rw [hL3.cell 2]; rfl) (hL3.frozen 2) ?_
  have hs3 := hb3.size
  have hs2 := hR.lt
  have hT := Turns.setCell (F := fun k => k = w.heap.size) (p := ⟨w.heap.size, 2, none⟩) (Turns.refl _ w3) (.inl rfl) p4
  have hL4 := hL3.set_ 2 p4
  rw [setR2] at hL4
  have hR4 := hR3.turns hT (by omega)
  have ho5 := ho4.turns hT (fun k hk he => by have := hf4 k hk; omega)
  have hb4 : Below w.heap.size w (w3.setCell ⟨w.heap.size, 2, none⟩ p4) := hb3'.setCell (p := ⟨w.heap.size, 2, none⟩) (Nat.le_refl _) p4
  generalize w3.setCell ⟨w.heap.size, 2, none⟩ p4 = w4 at *
  (repeat with_reducible first|refine fd r3 (by decide) ?_)
  refine st sz25 rfl (by rw [hL4.cell 3]; rfl) (hL4.frozen 3) ?_
  have hT2 := Turns.setCell (F := fun k => k = w.heap.size) (p := ⟨w.heap.size, 3, none⟩) (Turns.refl _ w4) (.inl rfl) (.slice none 0 0)
  have hL6 := hL4.set_ 3 (.slice none 0 0)
  rw [setR3] at hL6
  have hR6 := hR4.turns hT2 (by omega)
  have ho8 := ho5.turns hT2 (fun k hk he => by have := hf4 k hk; omega)
  have hb6 : Below w.heap.size w (w4.setCell ⟨w.heap.size, 3, none⟩ (.slice none 0 0)) := hb4.setCell (p := ⟨w.heap.size, 3, none⟩) (Nat.le_refl _) _
  generalize w4.setCell ⟨w.heap.size, 3, none⟩ (.slice none 0 0) = w6 at *
  refine ldA agg27 hL6 (by exact sz27) ?_
  refine stA hR6 (by exact sz27) (by rfl) (cellsR_one _ _ _ h1p rfl) ?_
  have hR7 := hR6.row (R.cells p4 (.slice none 0 0))
  have hT3 : Turns (fun k => k = g1) w6 (w6.setRow g1 (R.cells p4 (.slice none 0 0))) := Turns.setRow (F := fun k => k = g1) (Turns.refl _ w6) (.inl rfl) _
  have hb7 := hb6.trans (hT3.below hb6.size fun k hk he => by omega)
  refine retA agg27 hR7 (by exact sz27) ?_
  exact ⟨p4, rfl, ho8.turns hT3 (fun k hk he => by have := hf4 k hk; omega), fun k hk => by have := hf4 k hk; omega, hb7⟩
def sameV (x y : ValT) : Bool := x.1 == y.1 && (x.2.1 == y.2.1 && (x.2.2.1.toList == y.2.2.1.toList && true))
theorem run_eq36 (x y : ValT) (w : World) : (Op.eqFields 9999 (valF x).toArray (valF y).toArray (Tryz.prog.fieldsOf 91).toList).run Tryz.prog w = .ok (sameV x y) w := by
  have e : (Tryz.prog.fieldsOf 91).toList = [(Tryz.prog.fieldsOf 91)[0]!, (Tryz.prog.fieldsOf 91)[1]!, (Tryz.prog.fieldsOf 91)[2]!] := by kernel_rfl
  rw [e]
  have t0 : ((Tryz.prog.fieldsOf 91)[0]!).type = 3 := by kernel_rfl
  have t1 : ((Tryz.prog.fieldsOf 91)[1]!).type = 3 := by kernel_rfl
  have t2 : ((Tryz.prog.fieldsOf 91)[2]!).type = 9 := by kernel_rfl
  have o0 : ((Tryz.prog.fieldsOf 91)[0]!).offset = 0 := by kernel_rfl
  have o1 : ((Tryz.prog.fieldsOf 91)[1]!).offset = 1 := by kernel_rfl
  have o2 : ((Tryz.prog.fieldsOf 91)[2]!).offset = 2 := by kernel_rfl
  refine eqFields_cons (by decide +kernel) (by rw [t0]; exact und3) rfl (u := .int .i64 x.1) (u' := .int .i64 y.1) (by rw [o0]; rfl) (by rw [o0]; rfl) (by rw [t0, run_equalIn_int w 9998 3 .i64 .i64 _ _ und3]) ?_
  refine eqFields_cons (by decide +kernel) (by rw [t1]; exact und3) rfl (u := .int .i64 x.2.1) (u' := .int .i64 y.2.1) (by rw [o1]; rfl) (by rw [o1]; rfl) (by rw [t1, run_equalIn_int w 9998 3 .i64 .i64 _ _ und3]) ?_
  refine eqFields_cons (by decide +kernel) (by rw [t2]; exact und9) rfl (u := .string x.2.2.1) (u' := .string y.2.2.1) (by rw [o2]; rfl) (by rw [o2]; rfl) (by rw [t2, run_equalIn_string w 9998 9 _ _ und9]) ?_
  simp [Op.eqFields]
theorem guard36 : Tryz.prog.eqGuardType Tryz.prog.depth 91 = false := by kernel_rfl
theorem fields36 : Tryz.prog.underlying 91 = some (.struct (Tryz.prog.fieldsOf 91)) := by kernel_rfl
theorem held36 : Tryz.prog.stoodInHeld 91 = false := by kernel_rfl
theorem pr_neq36 {x' y' : Operand} (x y : ValT) : PR Tryz.prog (binS .neq 91 x' y' (.agg (valF x).toArray) (.agg (valF y).toArray)) (.bool (!sameV x y)) := by
  intro w
  simp only [binS, Sem.run_bind, run_eqGuard_agg w .neq 91 x' y' (valF x).toArray (valF y).toArray guard36, Result.andThen_ok]
  rw [run_neq_struct, run_equalIn_agg w 9999 91 _ _ fields36 held36, run_eq36]
  rfl
theorem pr_eql36 {x' y' : Operand} (x y : ValT) : PR Tryz.prog (binS .eql 91 x' y' (.agg (valF x).toArray) (.agg (valF y).toArray)) (.bool (sameV x y)) := by
  intro w
  simp only [binS, Sem.run_bind, run_eqGuard_agg w .eql 91 x' y' (valF x).toArray (valF y).toArray guard36, Result.andThen_ok]
  rw [run_eql_struct, run_equalIn_agg w 9999 91 _ _ fields36 held36, run_eq36]
  rfl
theorem sameV_self (x : ValT) : sameV x x = true := by simp [sameV]
end Go.Proofs.YtmnaggdhkggjhaaGreatDoor.E
namespace Go.Proofs.YtmnaggdhkggjhaaGreatDoor.E
open Go Go.RowKit
set_option linter.unusedSimpArgs false
set_option linter.unusedVariables false

theorem und58 : Tryz.prog.underlying 53 = some (.map 3 58) := by kernel_rfl
theorem und66 : Tryz.prog.underlying 61 = some (.map 3 39) := by kernel_rfl
theorem und63 : Tryz.prog.underlying 58 = some (.pointer 63) := by kernel_rfl
theorem und30 : Tryz.prog.underlying 25 = some (.pointer 55) := by kernel_rfl
theorem one58 : oneB Tryz.prog 53 = true := by kernel_rfl
theorem one66 : oneB Tryz.prog 61 = true := by kernel_rfl
theorem one63 : oneB Tryz.prog 58 = true := by kernel_rfl
theorem z63 : (Tryz.prog.info? 58).bind (·.zero) = some (.pointer none) := by kernel_rfl
theorem t0 : fofs Tryz.prog 55 0 = some (0, 1) := by kernel_rfl
theorem k0 : fofs Tryz.prog 63 0 = some (0, 1) := by kernel_rfl
theorem k1 : fofs Tryz.prog 63 1 = some (1, 1) := by kernel_rfl
/-- A reply that is kept. -/
structure Rp where
  R : Rep
  p : Value
  vs : List ValT
def Rp.val (m : Rp) : Value := .agg (m.R.cells m.p (.slice none 0 0))
structure Cli where
  gc : Nat
  br : Nat
  fl : Int
  l : List (Int × Rp)
structure RpAt (c : Nat → Nat) (x : Nat) (w : World) (m : Rp) : Prop where
  own : OwnR 3 91 w m.p m.vs.length (m.vs.flatMap valF)
  hue : InC c x m.p
  ok : ∀ v ∈ m.vs, valOk v
  len : m.vs.length ≤ 1000
structure CliAt (c : Nat → Nat) (x : Nat) (w : World) (C : Cli) : Prop where
  hue : c C.gc = x
  huem : c C.br = x
  blk : Blk w C.gc 63 #[.int .i64 C.fl, .map (some C.br)]
  map : MapI w C.br (C.l.map fun p => (p.1, p.2.val))
  el : ∀ p ∈ C.l, RpAt c x w p.2
/-- The colour of a client's objects. -/
def hueC (hu : Nat) (id : Int) : Nat := (id.toNat + 1) * 1000 + hu
/-- The blocks of a table's colours. -/
def Dh (hu : Nat) (c : Nat → Nat) : Nat → Prop := fun k => c k % 1000 = hu
theorem hueC_mod {hu : Nat} (h : hu < 1000) (id : Int) : hueC hu id % 1000 = hu := by unfold hueC; omega
theorem hueC_ne (hu : Nat) (id : Int) : hueC hu id ≠ hu := by unfold hueC; omega
theorem hueC_inj {hu : Nat} {a b : Int} (ha : 0 ≤ a) (hb : 0 ≤ b) (h : hueC hu a = hueC hu b) : a = b := by unfold hueC at h; omega
theorem Turns.stepH {hu : Nat} {c c1 : Nat → Nat} {w w1 w2 : World} (h : Turns (Dh hu c) w w1) (hc : ∀ k, k < w.heap.size → c1 k = c k) (k : Turns (Dh hu c1) w1 w2) : Turns (Dh hu c) w w2 :=
  h.trans (k.mono fun j _ hj => by
    rcases Nat.lt_or_ge j w.heap.size with hlt | hge
    · exact .inl (by rw [Dh, ← hc j hlt]; exact hj)
    · exact .inr hge)
structure TabAt (hu : Nat) (c : Nat → Nat) (w : World) (g bm : Nat) (T : List (Int × Cli)) : Prop where
  hh : 0 < hu ∧ hu < 1000
  hue : c g = hu
  huem : c bm = hu
  blk : Blk w g 55 #[.map (some bm)]
  map : MapI w bm (T.map fun p => (p.1, .pointer (some ⟨p.2.gc, 0, none⟩)))
  el : ∀ p ∈ T, 0 ≤ p.1 ∧ CliAt c (hueC hu p.1) w p.2
def TabC (hu : Nat) (c : Nat → Nat) (w : World) (g : Nat) (T : List (Int × Cli)) : Prop := ∃ bm, TabAt hu c w g bm T
theorem rVal_all : ∀ (w w' : World) (us : List Value) (x : ValT), rVal w us x → rVal w' us x := fun _ _ _ _ h => h
section
variable {hu : Nat} {c c' : Nat → Nat} {x : Nat} {w w' : World} {m : Rp} {C : Cli} {g bm : Nat} {T : List (Int × Cli)}
theorem own_neR {e t : TypeId} {s n g : Nat} {v : Value} {us : _} {cs : Array Value} (h : OwnR s e w v n us) (h' : Blk w g t cs) (ht : e ≠ t) : v.ownBlock ≠ some g := by
  rcases h.2 with ⟨rfl, _⟩ | ⟨g', c, cur, rfl, hb, _⟩
  · simp [Value.ownBlock]
  · intro he
    have : g' = g := by simpa [Value.ownBlock] using he
    exact blk_ne hb h' ht this
theorem own_nemR {e : TypeId} {s n b : Nat} {v : Value} {us : _} {l : List (Int × Value)} (h : OwnR s e w v n us) (h' : MapI w b l) : v.ownBlock ≠ some b := by
  rcases h.2 with ⟨rfl, _⟩ | ⟨g', c, cur, rfl, hb, _⟩
  · simp [Value.ownBlock]
  · intro he
    have : g' = b := by simpa [Value.ownBlock] using he
    exact map_ne hb h' this
theorem RpAt.turns {F : Nat → Prop} (h : RpAt c x w m) (hT : Turns F w w') (hF : ∀ k, m.p.ownBlock = some k → ¬ F k) : RpAt c x w' m := ⟨h.own.turns hT hF, h.hue, h.ok, h.len⟩
theorem RpAt.vals (h : RpAt c x w m) : Vals w [m.p] m.vs := h.own.rd (fun _ => rfl) fun p hp => rVal_of (h.ok p hp)
theorem RpAt.one (h : RpAt c x w m) : m.p.oneCell' = true := by obtain ⟨A, k, e, _⟩ := h.own.slice; rw [e]; rfl
theorem RpAt.re (h : RpAt c x w m) (hc : ∀ k, k < w.heap.size → c' k = c k) : RpAt c' x w m := ⟨h.own, h.hue.re (fun b hb => h.own.lt hb) hc, h.ok, h.len⟩
theorem CliAt.turns {F : Nat → Prop} (h : CliAt c x w C) (hT : Turns F w w') (hF : ∀ k, F k → c k ≠ x) : CliAt c x w' C :=
  ⟨h.hue, h.huem, h.blk.turns hT (fun e => hF _ e h.hue), h.map.turns hT (fun e => hF _ e h.huem), fun p hp => (h.el p hp).turns hT (fun k hk e => hF k e ((h.el p hp).hue k hk))⟩
theorem CliAt.re (h : CliAt c x w C) (hc : ∀ k, k < w.heap.size → c' k = c k) : CliAt c' x w C :=
  ⟨(hc _ h.blk.lt).trans h.hue, (hc _ h.map.lt).trans h.huem, h.blk, h.map, fun p hp => (h.el p hp).re hc⟩
theorem CliAt.below (h : CliAt c x w C) (hb : Below w.heap.size w w') : CliAt c x w' C := h.turns (F := fun _ => False) (Turns.of_below hb) (fun _ h => h.elim)
theorem TabAt.turns {F : Nat → Prop} (h : TabAt hu c w g bm T) (hT : Turns F w w') (hF : ∀ k, F k → c k % 1000 ≠ hu) : TabAt hu c w' g bm T :=
  ⟨h.hh, h.hue, h.huem, h.blk.turns hT (fun e => by have := hF g e; rw [h.hue, Nat.mod_eq_of_lt h.hh.2] at this; exact this rfl), h.map.turns hT (fun e => by have := hF bm e; rw [h.huem, Nat.mod_eq_of_lt h.hh.2] at this; exact this rfl),
    fun p hp => ⟨(h.el p hp).1, (h.el p hp).2.turns hT (fun k hk e => hF k hk (by rw [e, hueC_mod h.hh.2]))⟩⟩
theorem TabAt.below (h : TabAt hu c w g bm T) (hb : Below w.heap.size w w') : TabAt hu c w' g bm T := h.turns (F := fun _ => False) (Turns.of_below hb) (fun _ h => h.elim)
theorem TabAt.re (h : TabAt hu c w g bm T) (hc : ∀ k, k < w.heap.size → c' k = c k) : TabAt hu c' w g bm T :=
  ⟨h.hh, (hc g h.blk.lt).trans h.hue, (hc bm h.map.lt).trans h.huem, h.blk, h.map, fun p hp => ⟨(h.el p hp).1, (h.el p hp).2.re hc⟩⟩
theorem TabC.turns {F : Nat → Prop} (h : TabC hu c w g T) (hT : Turns F w w') (hF : ∀ k, F k → c k % 1000 ≠ hu) : TabC hu c w' g T := by
  obtain ⟨b, h⟩ := h; exact ⟨b, h.turns hT hF⟩
theorem TabC.below (h : TabC hu c w g T) (hb : Below w.heap.size w w') : TabC hu c w' g T := by
  obtain ⟨b, h⟩ := h; exact ⟨b, h.below hb⟩
theorem TabC.re (h : TabC hu c w g T) (hc : ∀ k, k < w.heap.size → c' k = c k) : TabC hu c' w g T := by
  obtain ⟨b, h⟩ := h; exact ⟨b, h.re hc⟩
end
/-- What a look finds: the error; what is kept. -/
def badP (id n : Int) : Bool := !(decide (0 ≤ id ∧ id ≤ 1099511627776) && decide (1 ≤ n ∧ n ≤ 1099511627776))
def lookP (T : List (Int × Cli)) (id n : Int) : Int × Option Rp :=
  if badP id n then (1, none) else match getK id T with
    | none => (7, none)
    | some C => if n ≤ C.fl then (12, none) else match getK n C.l with
      | some m => (0, some m)
      | none => (7, none)
/-- A reply as it is told. -/
def toldR (o : Option Rp) : Rep := (o.map (·.R)).getD zeroRep
def toldV (o : Option Rp) : List ValT := (o.map (·.vs)).getD []
def LookPost (w : World) (o : Int × Option Rp) (r : Value) (w' : World) : Prop :=
  ∃ p', r = .tuple #[.agg ((toldR o.2).cells p' (.slice none 0 0)), .int .i64 o.1] ∧ OwnS 3 91 w' p' (toldV o.2).length ((toldV o.2).flatMap valF) ∧ Fresh w.heap.size p' ∧ Below w.heap.size w w'
theorem Look_tab {hu : Nat} (c : Nat → Nat) (w : World) (g : Nat) (T : List (Int × Cli)) (id n : Int) (h : TabC hu c w g T) :
    CallP Tryz.prog 13 #[.pointer (some ⟨g, 0, none⟩), .int .i64 id, .int .i64 n] (LookPost w (lookP T id n)) w := by
  obtain ⟨bm, h⟩ := h
  refine ⟨S13.calls _ _ _ _ _ ?_⟩
  unfold S13
  refine al z27 ?_
  have hR : Blk (w.alloc (.cells (Value.agg (zeroRep.cells (.slice none 0 0) (.slice none 0 0))).cells 39)) w.heap.size 39 (zeroRep.cells (.slice none 0 0) (.slice none 0 0)) := Blk.new w 39 _
  have ha := (Below.refl w.heap.size w).alloc (Nat.le_refl _) (.cells (Value.agg (zeroRep.cells (.slice none 0 0) (.slice none 0 0))).cells 39)
  generalize w.alloc (.cells (Value.agg (zeroRep.cells (.slice none 0 0) (.slice none 0 0))).cells 39) = w1 at *
  have h1 := h.below ha
  have hgl := hR.lt
  have tell : ∀ {w' : World} (e : Int), Below w.heap.size w w' →
      LookPost w (e, none) (.tuple #[.agg (zeroRep.cells (.slice none 0 0) (.slice none 0 0)), .int .i64 e]) (w'.setRow w.heap.size (zeroRep.cells (.slice none 0 0) (.slice none 0 0))) :=
    fun e hb => ⟨.slice none 0 0, rfl, OwnS.nil 3 91 _, Fresh.nil _, below_setRow hb (Nat.le_refl _) _⟩
  refine (within_spec id 0 w1).mono ?_
  rintro _ _ ⟨rfl, rfl⟩
  by_cases hid : 0 ≤ id ∧ id ≤ 1099511627776
  · rw [decide_eq_true hid]
    (repeat with_reducible first|refine z_d ?_|refine z_E ?_)
    refine (within_spec n 1 w1).mono ?_
    rintro _ _ ⟨rfl, rfl⟩
    by_cases hn : 1 ≤ n ∧ n ≤ 1099511627776
    · have hbad : badP id n = false := by simp [badP, hid, hn]
      rw [decide_eq_true hn]
      (repeat with_reducible first|refine z_c ?_|refine z_d ?_|refine z_l ?_|refine z_E ?_)
      refine JoinP.cut (fun vs w' => vs = [] ∧ lookP T id n = (7, none) ∧ Blk w' w.heap.size 39 (zeroRep.cells (.slice none 0 0) (.slice none 0 0)) ∧ Below w.heap.size w w') (fun J hJ => ?_) (fun vs w' hI => ?_)
      · have c0 : w1.cell? ⟨g, 0, none⟩ = some (.map (some bm)) := h1.blk.cell 0
        (repeat with_reducible first|refine fd t0 (by decide) ?_|refine ld one58 c0 ?_|refine z_a ?_)
        refine lkq und58 und3 z63 h1.map ?_
        rw [getK_map (fun C : Cli => Value.pointer (some ⟨C.gc, 0, none⟩))]
        cases hx : getK id T with
        | none =>
          simp only [Option.map_none, Option.getD_none]
          refine ofPR (pr_pnot und63) ?_
          simp only [Option.isSome_none]
          (repeat with_reducible first|refine z_c ?_)
          refine hJ _ _ ⟨rfl, ?_, hR, ha⟩
          rw [lookP, hbad]
          simp [hx]
        | some C =>
          simp only [Option.map_some, Option.getD_some]
          refine ofPR (pr_pnot und63) ?_
          have hC := (h1.el _ (getK_mem _ _ _ hx)).2
          have e0 : w1.cell? ⟨C.gc, 0, none⟩ = some (.int .i64 C.fl) := hC.blk.cell 0
          have e1 : w1.cell? ⟨C.gc, 1, none⟩ = some (.map (some C.br)) := hC.blk.cell 1
          simp only [Option.isSome_some]
          (repeat with_reducible first|refine fd k0 (by decide) ?_|refine ld one3 e0 ?_|refine z_a ?_|refine z_b ?_)
          refine bi_leq_c (fun hfl => ?_) (fun hfl => ?_)
          · (repeat with_reducible first|refine z_b ?_)
            refine bd (cells := zeroRep.cells (.slice none 0 0) (.slice none 0 0)) (by kernel_rfl) ?_
            refine stA hR (by exact sz27) (by rfl) (cellsR_one _ _ _ rfl rfl) ?_
            refine retA agg27 (hR.row _) (by exact sz27) ?_
            have hlk : lookP T id n = (12, none) := by rw [lookP, hbad]; simp [hx, hfl]
            rw [hlk]
            exact tell 12 ha
          · (repeat with_reducible first|refine fd k1 (by decide) ?_|refine ld one66 e1 ?_|refine z_a ?_|refine z_c ?_)
            refine lkp und66 und3 z27 hC.map ?_
            rw [getK_map Rp.val]
            cases hy : getK n C.l with
            | none =>
              simp only [Option.map_none, Option.getD_none, Option.isSome_none]
              (repeat with_reducible first|refine z_A ?_|refine z_B ?_)
              refine newRep rfl rfl ?_
              intro w2 _ hb2
              (repeat with_reducible first|refine z_c ?_)
              refine hJ _ _ ⟨rfl, ?_, hR.below' hb2, below_then ha hb2⟩
              rw [lookP, hbad]
              simp [hx, hfl, hy]
            | some m =>
              have hm := hC.el _ (getK_mem _ _ _ hy)
              simp only [Option.map_some, Option.getD_some, Option.isSome_some]
              (repeat with_reducible first|refine z_A ?_|refine z_B ?_)
              refine newRep hm.one rfl ?_
              intro w2 hM2 hb2
              have hb2' := below_then ha hb2
              (repeat with_reducible first|refine z_b ?_)
              refine ldA agg27 hM2 (by exact sz27) ?_
              refine (copied_spec m.R m.p _ m.vs w2 (keeps_Vals _ _ _ _ hb2 hm.vals) rfl (by have := hm.len; simp only at this; omega)).mono ?_
              rintro _ w3 ⟨p', rfl, hop, hfp, hb3⟩
              have hb3' := below_then hb2' hb3
              have hR3 := (hR.below' hb2).below' hb3
              have h1p : p'.oneCell' = true := by obtain ⟨A, e⟩ := hop.slice; rw [e]; rfl
              refine stA hR3 (by exact sz27) (by rfl) (cellsR_one _ _ _ h1p rfl) ?_
              have hT4 : Turns (fun k => k = w.heap.size) w3 (w3.setRow w.heap.size (m.R.cells p' (.slice none 0 0))) := Turns.setRow (F := fun k => k = w.heap.size) (Turns.refl _ w3) (.inl rfl) _
              refine retA agg27 (hR3.row _) (by exact sz27) ?_
              have hlk : lookP T id n = (0, some m) := by rw [lookP, hbad]; simp [hx, hfl, hy]
              rw [hlk]
              have hs2 := hb2'.size
              have hsl := hM2.lt
              exact ⟨p', rfl, hop.turns hT4 (fun k hk he => by have := hfp k hk; omega), fun k hk => by have := hfp k hk; omega, below_setRow hb3' (Nat.le_refl _) _⟩
      · obtain ⟨rfl, hlk, hB, hb⟩ := hI
        refine bd (cells := zeroRep.cells (.slice none 0 0) (.slice none 0 0)) (by kernel_rfl) ?_
        refine stA hB (by exact sz27) (by rfl) (cellsR_one _ _ _ rfl rfl) ?_
        refine retA agg27 (hB.row _) (by exact sz27) ?_
        rw [hlk]
        exact tell 7 hb
    · have hbad : badP id n = true := by simp [badP, hid, hn]
      rw [decide_eq_false hn]
      (repeat with_reducible first|refine z_b ?_|refine z_d ?_|refine z_l ?_|refine z_F ?_)
      refine bd (cells := zeroRep.cells (.slice none 0 0) (.slice none 0 0)) (by kernel_rfl) ?_
      refine stA hR (by exact sz27) (by rfl) (cellsR_one _ _ _ rfl rfl) ?_
      refine retA agg27 (hR.row _) (by exact sz27) ?_
      rw [show lookP T id n = (1, none) from by rw [lookP, if_pos hbad]]
      exact tell 1 ha
  · have hbad : badP id n = true := by simp [badP, hid]
    rw [decide_eq_false hid]
    (repeat with_reducible first|refine z_b ?_|refine z_f ?_|refine z_k ?_|refine z_F ?_)
    refine bd (cells := zeroRep.cells (.slice none 0 0) (.slice none 0 0)) (by kernel_rfl) ?_
    refine stA hR (by exact sz27) (by rfl) (cellsR_one _ _ _ rfl rfl) ?_
    refine retA agg27 (hR.row _) (by exact sz27) ?_
    rw [show lookP T id n = (1, none) from by rw [lookP, if_pos hbad]]
    exact tell 1 ha
end Go.Proofs.YtmnaggdhkggjhaaGreatDoor.E
namespace Go.Proofs.YtmnaggdhkggjhaaGreatDoor.E
open Go Go.Proofs Go.RowKit
set_option linter.unusedSimpArgs false
set_option linter.unusedVariables false

/-- What a call leaves: the table, and that nothing else has turned. -/
def LeftT (hu : Nat) (c : Nat → Nat) (w : World) (g : Nat) (T : List (Int × Cli)) (w' : World) : Prop := ∃ c', (∀ k, k < w.heap.size → c' k = c k) ∧ TabC hu c' w' g T ∧ Turns (Dh hu c) w w'
theorem New_tab (hu : Nat) (hh : 0 < hu ∧ hu < 1000) (c : Nat → Nat) (w : World) : CallP Tryz.prog 6 #[] (fun r w' => ∃ g c', r = .pointer (some ⟨g, 0, none⟩) ∧ (∀ k, k < w.heap.size → c' k = c k) ∧ TabC hu c' w' g [] ∧ Below w.heap.size w w') w := by
  refine ⟨S6.calls _ _ ?_⟩
  unfold S6
  refine mkm ?_
  intro w1 hm1 hb1
  refine bd (cells := #[.map (some w.heap.size)]) (by kernel_rfl) ?_
  refine bx ?_
  have hbl : Blk (w1.alloc (.cells (Value.agg #[.map (some w.heap.size)]).cells 55)) w1.heap.size 55 #[.map (some w.heap.size)] := Blk.new w1 55 _
  have ha := (Below.refl w1.heap.size w1).alloc (Nat.le_refl _) (.cells (Value.agg #[.map (some w.heap.size)]).cells 55)
  have hlt := hm1.lt
  have hsz := hb1.size
  refine ⟨w1.heap.size, col c w.heap.size hu, rfl, col_lt _ _ _, ⟨w.heap.size, hh, col_ge _ _ _ hsz, col_ge _ _ _ (Nat.le_refl _), hbl, hm1.below ha, fun x hx => by simp at hx⟩, below_then hb1 ha⟩
theorem client_tab {hu : Nat} (c : Nat → Nat) (w : World) (g : Nat) (T : List (Int × Cli)) (id : Int) (h : TabC hu c w g T) (hid : 0 ≤ id ∧ id ≤ 9223372036854775807) (hT : T.length < 1000000) :
    CallP Tryz.prog 18 #[.pointer (some ⟨g, 0, none⟩), .int .i64 id] (fun r w' => ∃ (C : Cli) (T' : List (Int × Cli)), r = .pointer (some ⟨C.gc, 0, none⟩) ∧ getK id T' = some C ∧ (match getK id T with | some C0 => T' = T ∧ C = C0 | none => T' = T ++ [(id, C)] ∧ C.fl = 0 ∧ C.l = []) ∧ LeftT hu c w g T' w') w := by
  obtain ⟨bm, h⟩ := h
  refine ⟨S18.calls _ _ _ _ ?_⟩
  unfold S18
  have c0 : w.cell? ⟨g, 0, none⟩ = some (.map (some bm)) := h.blk.cell 0
  refine JoinP.cut (fun vs w' => ∃ (C : Cli) (T' : List (Int × Cli)), getK id T' = some C ∧ (match getK id T with | some C0 => T' = T ∧ C = C0 | none => T' = T ++ [(id, C)] ∧ C.fl = 0 ∧ C.l = []) ∧ ∃ c', (∀ k, k < w.heap.size → c' k = c k) ∧ TabAt hu c' w' g bm T' ∧ Turns (Dh hu c) w w') (fun J hJ => ?_) (fun vs w' hI => ?_)
  · (repeat with_reducible first|refine fd t0 (by decide) ?_|refine ld one58 c0 ?_|refine z_a ?_)
    refine lkq und58 und3 z63 h.map ?_
    rw [getK_map (fun C : Cli => Value.pointer (some ⟨C.gc, 0, none⟩))]
    cases hx : getK id T with
    | some C =>
      simp only [Option.map_some, Option.getD_some]
      refine ofPR (pr_pnil und63) ?_
      simp only [Option.isNone_some]
      (repeat with_reducible first|refine z_c ?_)
      refine hJ _ _ ⟨C, T, hx, ?_, c, fun _ _ => rfl, h, Turns.refl _ _⟩
      rw [hx]
      exact ⟨rfl, rfl⟩
    | none =>
      simp only [Option.map_none, Option.getD_none]
      refine ofPR (pr_pnil und63) ?_
      simp only [Option.isNone_none]
      (repeat with_reducible first|refine fd t0 (by decide) ?_|refine ld one58 c0 ?_|refine z_a ?_|refine z_b ?_)
      refine mkm ?_
      intro w1 hm1 hb1
      refine bd (cells := #[.int .i64 0, .map (some w.heap.size)]) (by kernel_rfl) ?_
      refine bx ?_
      have hbl : Blk (w1.alloc (.cells (Value.agg #[.int .i64 0, .map (some w.heap.size)]).cells 63)) w1.heap.size 63 #[.int .i64 0, .map (some w.heap.size)] := Blk.new w1 63 _
      have ha := (Below.refl w1.heap.size w1).alloc (Nat.le_refl _) (.cells (Value.agg #[.int .i64 0, .map (some w.heap.size)]).cells 63)
      have hm2 := hm1.below ha
      have hb2 := below_then hb1 ha
      have hs1 := hb1.size
      generalize hgc : w1.heap.size = gc at *
      generalize w1.alloc (.cells (Value.agg #[.int .i64 0, .map (some w.heap.size)]).cells 63) = w2 at *
      have h2 := (h.re (col_lt c w.heap.size (hueC hu id))).below hb2
      have hbl0 := h.map.lt
      have hgl0 := h.blk.lt
      have hl : (T.map fun p : Int × Cli => (p.1, Value.pointer (some ⟨p.2.gc, 0, none⟩))).length < maxLen := by rw [List.length_map]; simp only [maxLen]; omega
      refine mup und58 und3 h2.map (wf64 (by omega)) hl ?_
      intro w3 hm3 hT3
      have hcb : col c w.heap.size (hueC hu id) bm = hu := h2.huem
      have hgb : g ≠ bm := map_ne h.blk h.map
      have hC0 : CliAt (col c w.heap.size (hueC hu id)) (hueC hu id) w2 ⟨gc, w.heap.size, 0, []⟩ := ⟨col_ge _ _ _ hs1, col_ge _ _ _ (Nat.le_refl _), hbl, hm2, fun p hp => by simp at hp⟩
      have hnone : getK id (T.map fun p : Int × Cli => (p.1, Value.pointer (some ⟨p.2.gc, 0, none⟩))) = none := by
        rw [getK_map (fun C : Cli => Value.pointer (some ⟨C.gc, 0, none⟩)), hx]; rfl
      refine hJ _ _ ⟨⟨gc, w.heap.size, 0, []⟩, T ++ [(id, ⟨gc, w.heap.size, 0, []⟩)], getK_app _ _ _ hx, ?_, col c w.heap.size (hueC hu id), col_lt _ _ _, ⟨h2.hh, h2.hue, h2.huem, h2.blk.turns hT3 hgb, ?_, fun p hp => ?_⟩, ?_⟩
      · rw [hx]
        exact ⟨rfl, rfl, rfl⟩
      · rw [setK_new _ _ _ hnone] at hm3
        rw [List.map_append]
        exact hm3
      · rcases List.mem_append.1 hp with hp | hp
        · exact ⟨(h2.el p hp).1, (h2.el p hp).2.turns hT3 (fun k hk e => absurd (e.symm.trans (by rw [hk, hcb])) (hueC_ne hu _))⟩
        · simp only [List.mem_cons, List.not_mem_nil, or_false] at hp
          subst hp
          exact ⟨hid.1, hC0.turns hT3 (fun k hk e => absurd (e.symm.trans (by rw [hk, hcb])) (hueC_ne hu _))⟩
      · exact (Turns.of_below hb2).trans (hT3.mono fun k hk e => .inl (by rw [e]; show c bm % 1000 = hu; rw [h.huem, Nat.mod_eq_of_lt h.hh.2]))
  · obtain ⟨C, T', hx, hT', c', hc', h', hTu⟩ := hI
    have c0' : w'.cell? ⟨g, 0, none⟩ = some (.map (some bm)) := h'.blk.cell 0
    (repeat with_reducible first|refine fd t0 (by decide) ?_|refine ld one58 c0' ?_|refine z_a ?_)
    refine lkq und58 und3 z63 h'.map ?_
    rw [getK_map (fun C : Cli => Value.pointer (some ⟨C.gc, 0, none⟩)), hx]
    exact ⟨C, T', rfl, hx, hT', c', hc', ⟨bm, h'⟩, hTu⟩
theorem call47 : callable Tryz.prog 46 = true := by kernel_rfl
theorem trim1_spec (k : Int) (R : Rep) (p q : Value) (b1 gc : Nat) (fl : Int) (br : Value) (w : World) (hb1 : Blk w b1 58 #[.pointer (some ⟨gc, 0, none⟩)]) (hgc : Blk w gc 63 #[.int .i64 fl, br]) :
    CallP Tryz.prog 46 #[.int .i64 k, .agg (R.cells p q), .pointer (some ⟨b1, 0, none⟩)] (fun r w' => r = .bool (decide (k ≤ fl)) ∧ Below w.heap.size w w') w := by
  refine ⟨S46.calls _ _ _ _ _ ?_⟩
  unfold S46
  refine bx ?_
  have ha := (Below.refl w.heap.size w).alloc (Nat.le_refl _) (.cells (Value.agg (R.cells p q)).cells 39)
  have e0 := (hb1.below' ha).cell 0
  have f0 := (hgc.below' ha).cell 0
  generalize w.alloc (.cells (Value.agg (R.cells p q)).cells 39) = w1 at *
  have e0' : w1.cell? ⟨b1, 0, none⟩ = some (.pointer (some ⟨gc, 0, none⟩)) := e0
  have f0' : w1.cell? ⟨gc, 0, none⟩ = some (.int .i64 fl) := f0
  (repeat with_reducible first|refine ld one63 e0' ?_|refine fd k0 (by decide) ?_|refine ld one3 f0' ?_|refine z_a ?_)
  refine bi_leq ?_
  exact ⟨rfl, ha⟩
/-- maps.DeleteFunc(c.replies, n <= c.floor) -/
theorem DelF_spec (c : Nat → Nat) (x : Nat) (C : Cli) (b1 : Nat) (w : World) (h : CliAt c x w C) (hb1 : Blk w b1 58 #[.pointer (some ⟨C.gc, 0, none⟩)]) :
    CallP Tryz.prog 45 #[.map (some C.br), .func (.func 46) #[] #[.pointer (some ⟨b1, 0, none⟩)]] (fun r w' => MapI w' C.br ((C.l.filter fun p => decide (C.fl < p.1)).map fun p => (p.1, p.2.val)) ∧ Turns (fun k => k = C.br) w w') w := by
  refine ⟨S45.calls _ _ _ _ ?_⟩
  unfold S45
  have hn1 := map_ne hb1 h.map
  have hn2 := map_ne h.blk h.map
  have hl1 := hb1.lt
  have hl2 := h.blk.lt
  have hl3 := h.map.lt
  have hnd : (C.l.map (·.1)).Nodup := by
    have := h.map.nodup
    rwa [List.map_map] at this
  refine rng und66 h.map ?_
  intro w1 hm1 hbw1
  have hTw1 : Turns (fun k => k = C.br) w w1 := Turns.of_below hbw1
  generalize hr : w.heap.size = r at *
  refine LoopP.inv0n (fun n w' => ∃ todo : List Int, todo.length = n ∧ MapR w' C.br r ((C.l.filter fun p => decide (p.1 ∈ todo ∨ C.fl < p.1)).map fun p => (p.1, p.2.val)) todo ∧ Turns (fun k => k = C.br) w w') (C.l.map (·.1)).length ⟨C.l.map (·.1), rfl, ?_, hTw1⟩ ?_
  · have : (C.l.filter fun p => decide (p.1 ∈ C.l.map (·.1) ∨ C.fl < p.1)) = C.l := List.filter_eq_self.2 fun p hp => by
      simp only [decide_eq_true_eq]
      exact .inl (List.mem_map.2 ⟨p, hp, rfl⟩)
    rw [this]
    rw [List.map_map] at hm1
    exact hm1
  · rintro n w2 ⟨todo, rfl, hm2, hT2⟩ J hJ
    refine nxt hm2 (fun e => ?_) ?_
    · (repeat with_reducible first|refine z_c ?_|refine z_A ?_)
      subst e
      have : (C.l.filter fun p => decide (p.1 ∈ ([] : List Int) ∨ C.fl < p.1)) = C.l.filter fun p => decide (C.fl < p.1) := List.filter_congr fun p _ => by simp
      rw [this] at hm2
      exact ⟨hm2.map, hT2⟩
    · intro k v w3 hk hget hm3 hT3 hent
      have hT3' : Turns (fun k => k = C.br) w w3 := hT2.trans (hT3.mono fun j _ e => .inr (by omega))
      rw [getK_map Rp.val] at hget
      obtain ⟨m, hgm, rfl⟩ := Option.map_eq_some_iff.1 hget
      have hmem : (k, m) ∈ C.l := (List.mem_filter.1 (getK_mem _ _ _ hgm)).1
      have hm := h.el _ hmem
      (repeat with_reducible first|refine z_b ?_|refine z_A ?_)
      refine lift hent ?_
      (repeat with_reducible first|refine z_A ?_|refine z_B ?_)
      refine newRep hm.one rfl ?_
      intro w4 hM4 hb4
      have hT4 := hT3'.then_below hb4
      have hm4 := hm3.below hb4
      refine ldA agg27 hM4 (by exact sz27) ?_
      refine cvl call47 ?_
      show CallP Tryz.prog 46 #[.int .i64 k, .agg (m.R.cells m.p (.slice none 0 0)), .pointer (some ⟨b1, 0, none⟩)] _ w4
      refine (trim1_spec k m.R m.p _ b1 C.gc C.fl _ w4 (hb1.turns hT4 hn1) (h.blk.turns hT4 hn2)).mono ?_
      rintro _ w5 ⟨rfl, hb5⟩
      have hT5 := hT4.then_below hb5
      have hm5 := hm4.below hb5
      have hlt : (todo.filter fun j => decide (j ≠ k)).length < todo.length := by
        rw [List.length_filter_lt_length_iff_exists]
        exact ⟨k, hk, by simp⟩
      have hnotin : k ∉ todo.filter fun j => decide (j ≠ k) := by simp
      refine CondP.dec (fun hle => ?_) (fun hle => ?_)
      · refine dltR und66 und3 hm5 hnotin ?_
        intro w6 hm6 hT6
        refine hJ _ _ hlt ⟨_, rfl, ?_, hT5.trans (hT6.mono fun j _ e => .inl e)⟩
        rw [delK_map Rp.val, delK_filter k _ ((List.Sublist.map _ List.filter_sublist).nodup hnd), List.filter_filter] at hm6
        have : (C.l.filter fun p => decide (p.1 ≠ k) && decide (p.1 ∈ todo ∨ C.fl < p.1)) = C.l.filter fun p => decide (p.1 ∈ (todo.filter fun j => decide (j ≠ k)) ∨ C.fl < p.1) := List.filter_congr fun p _ => by
          rw [← Bool.decide_and]
          refine decide_eq_decide.2 ?_
          rw [List.mem_filter]
          simp only [decide_eq_true_eq]
          constructor
          · rintro ⟨h1, h2 | h2⟩
            · exact .inl ⟨h2, h1⟩
            · exact .inr h2
          · rintro (⟨h1, h2⟩ | h2)
            · exact ⟨h2, .inl h1⟩
            · exact ⟨fun e => by omega, .inr h2⟩
        rw [this] at hm6
        exact hm6
      · refine hJ _ _ hlt ⟨_, rfl, ?_, hT5⟩
        have : (C.l.filter fun p => decide (p.1 ∈ todo ∨ C.fl < p.1)) = C.l.filter fun p => decide (p.1 ∈ (todo.filter fun j => decide (j ≠ k)) ∨ C.fl < p.1) := List.filter_congr fun p _ => by
          refine decide_eq_decide.2 ?_
          rw [List.mem_filter]
          simp only [decide_eq_true_eq]
          constructor
          · rintro (h1 | h2)
            · by_cases e : p.1 = k
              · exact .inr (by omega)
              · exact .inl ⟨h1, e⟩
            · exact .inr h2
          · rintro (⟨h1, _⟩ | h2)
            · exact .inl h1
            · exact .inr h2
        rw [this] at hm5
        exact hm5
end Go.Proofs.YtmnaggdhkggjhaaGreatDoor.E
namespace Go.Proofs.YtmnaggdhkggjhaaGreatDoor.E
open Go Go.Proofs Go.Shelf

def keysA_ren : Go.Shelf.Ren := ⟨fun | 7 => 31 | 10 => 57 | n => n, fun | 23 => 61 | 26 => 3 | 3 => 39 | 28 => 77 | 0 => 0 | 27 => 76 | 33 => 107 | 4 => 4 | n => n, fun | n => n⟩
theorem keysA : Go.Proofs.SlLaysZI.n7 Tryz.prog keysA_ren := {
  mixed := by kernel_rfl
  f7 := ⟨Tryz.f31.name, by decide, Tryz.func31.trans (congrArg some (by kernel_rfl))⟩
  f10 := ⟨Tryz.f57.name, by decide, Tryz.func57.trans (congrArg some (by kernel_rfl))⟩
  t0 := Tryz.underlying0
  a0 := Tryz.isAgg0
  z0 := Tryz.sizeOf0
  v0 := Tryz.zeroValue0
  t4 := Tryz.underlying4
  a4 := Tryz.isAgg4
  z4 := Tryz.sizeOf4
  v4 := Tryz.zeroValue4
  t23 := Tryz.underlying61
  a23 := Tryz.isAgg61
  z23 := Tryz.sizeOf61
  v23 := Tryz.zeroValue61
  t26 := Tryz.underlying3
  a26 := Tryz.isAgg3
  z26 := Tryz.sizeOf3
  v26 := Tryz.zeroValue3
  t27 := Tryz.underlying76
  a27 := Tryz.isAgg76
  z27 := Tryz.sizeOf76
  v27 := Tryz.zeroValue76
  t28 := Tryz.underlying77
  a28 := Tryz.isAgg77
  z28 := Tryz.sizeOf77
  v28 := Tryz.zeroValue77
  t33 := Tryz.underlying107
  a33 := Tryz.isAgg107
  z33 := Tryz.sizeOf107
  v33 := Tryz.zeroValue107 }
def keysB_ren : Go.Shelf.Ren := ⟨fun | 7 => 29 | 10 => 55 | n => n, fun | 23 => 53 | 26 => 3 | 3 => 58 | 28 => 77 | 0 => 0 | 27 => 76 | 33 => 107 | 4 => 4 | n => n, fun | n => n⟩
theorem keysB : Go.Proofs.SlLaysZI.n7 Tryz.prog keysB_ren := {
  mixed := by kernel_rfl
  f7 := ⟨Tryz.f29.name, by decide, Tryz.func29.trans (congrArg some (by kernel_rfl))⟩
  f10 := ⟨Tryz.f55.name, by decide, Tryz.func55.trans (congrArg some (by kernel_rfl))⟩
  t0 := Tryz.underlying0
  a0 := Tryz.isAgg0
  z0 := Tryz.sizeOf0
  v0 := Tryz.zeroValue0
  t4 := Tryz.underlying4
  a4 := Tryz.isAgg4
  z4 := Tryz.sizeOf4
  v4 := Tryz.zeroValue4
  t23 := Tryz.underlying53
  a23 := Tryz.isAgg53
  z23 := Tryz.sizeOf53
  v23 := Tryz.zeroValue53
  t26 := Tryz.underlying3
  a26 := Tryz.isAgg3
  z26 := Tryz.sizeOf3
  v26 := Tryz.zeroValue3
  t27 := Tryz.underlying76
  a27 := Tryz.isAgg76
  z27 := Tryz.sizeOf76
  v27 := Tryz.zeroValue76
  t28 := Tryz.underlying77
  a28 := Tryz.isAgg77
  z28 := Tryz.sizeOf77
  v28 := Tryz.zeroValue77
  t33 := Tryz.underlying107
  a33 := Tryz.isAgg107
  z33 := Tryz.sizeOf107
  v33 := Tryz.zeroValue107 }
def sortedA_ren : Go.Shelf.Ren := ⟨fun | 6 => 28 | 8 => 48 | 9 => 54 | 11 => 63 | 13 => 68 | 12 => 67 | 23 => 82 | 24 => 83 | 14 => 73 | 15 => 74 | 16 => 75 | 17 => 76 | 18 => 77 | 19 => 78 | 20 => 79 | 21 => 80 | 22 => 81 | 25 => 88 | 26 => 89 | 27 => 90 | 28 => 91 | 29 => 92 | 30 => 93 | 31 => 97 | n => n, fun | 26 => 3 | 28 => 77 | 24 => 74 | 0 => 0 | 3 => 3 | 37 => 105 | 48 => 136 | 50 => 138 | 4 => 4 | 40 => 129 | 39 => 128 | 45 => 133 | 5 => 5 | 9 => 9 | 51 => 143 | 55 => 147 | 57 => 151 | 58 => 152 | 33 => 107 | n => n, fun | n => n⟩
theorem sortedA : Go.Proofs.SlLaysZI.n6 Tryz.prog sortedA_ren := {
  mixed := by kernel_rfl
  f6 := ⟨Tryz.f28.name, by decide, Tryz.func28.trans (congrArg some (by kernel_rfl))⟩
  f8 := ⟨Tryz.f48.name, by decide, Tryz.func48.trans (congrArg some (by kernel_rfl))⟩
  f11 := ⟨Tryz.f63.name, by decide, Tryz.func63.trans (congrArg some (by kernel_rfl))⟩
  t0 := Tryz.underlying0
  a0 := Tryz.isAgg0
  z0 := Tryz.sizeOf0
  v0 := Tryz.zeroValue0
  t24 := Tryz.underlying74
  a24 := Tryz.isAgg74
  z24 := Tryz.sizeOf74
  v24 := Tryz.zeroValue74
  t26 := Tryz.underlying3
  a26 := Tryz.isAgg3
  z26 := Tryz.sizeOf3
  v26 := Tryz.zeroValue3
  t28 := Tryz.underlying77
  a28 := Tryz.isAgg77
  z28 := Tryz.sizeOf77
  v28 := Tryz.zeroValue77
  i26 := by kernel_rfl }
def sortA_ren : Go.Shelf.Ren := ⟨fun | 5 => 54 | 8 => 68 | 7 => 67 | 19 => 82 | 20 => 83 | 10 => 73 | 11 => 74 | 12 => 75 | 13 => 76 | 14 => 77 | 15 => 78 | 16 => 79 | 17 => 80 | 18 => 81 | 30 => 88 | 31 => 89 | 32 => 90 | 33 => 91 | 34 => 92 | 35 => 93 | 40 => 97 | n => n, fun | 23 => 74 | 25 => 3 | 3 => 3 | 32 => 105 | 22 => 74 | 0 => 0 | 44 => 136 | 46 => 138 | 4 => 4 | 36 => 129 | 35 => 128 | 41 => 133 | 5 => 5 | 9 => 9 | 53 => 143 | 57 => 147 | 63 => 151 | 64 => 152 | n => n, fun | n => n⟩
theorem sortA : Go.Proofs.SlLaysM.n5 Tryz.prog sortA_ren := {
  mixed := by kernel_rfl
  f5 := ⟨Tryz.f54.name, by decide, Tryz.func54.trans (congrArg some (by kernel_rfl))⟩
  f7 := ⟨Tryz.f67.name, by decide, Tryz.func67.trans (congrArg some (by kernel_rfl))⟩
  f8 := Tryz.func68.trans (congrArg some (by kernel_rfl))
  f10 := ⟨Tryz.f73.name, by decide, Tryz.func73.trans (congrArg some (by kernel_rfl))⟩
  f11 := ⟨Tryz.f74.name, by decide, Tryz.func74.trans (congrArg some (by kernel_rfl))⟩
  f12 := ⟨Tryz.f75.name, by decide, Tryz.func75.trans (congrArg some (by kernel_rfl))⟩
  f13 := ⟨Tryz.f76.name, by decide, Tryz.func76.trans (congrArg some (by kernel_rfl))⟩
  f14 := ⟨Tryz.f77.name, by decide, Tryz.func77.trans (congrArg some (by kernel_rfl))⟩
  f15 := ⟨Tryz.f78.name, by decide, Tryz.func78.trans (congrArg some (by kernel_rfl))⟩
  f16 := ⟨Tryz.f79.name, by decide, Tryz.func79.trans (congrArg some (by kernel_rfl))⟩
  f17 := ⟨Tryz.f80.name, by decide, Tryz.func80.trans (congrArg some (by kernel_rfl))⟩
  f18 := ⟨Tryz.f81.name, by decide, Tryz.func81.trans (congrArg some (by kernel_rfl))⟩
  f19 := Tryz.func82.trans (congrArg some (by kernel_rfl))
  f20 := Tryz.func83.trans (congrArg some (by kernel_rfl))
  f30 := ⟨Tryz.f88.name, by decide, Tryz.func88.trans (congrArg some (by kernel_rfl))⟩
  f31 := Tryz.func89.trans (congrArg some (by kernel_rfl))
  f32 := Tryz.func90.trans (congrArg some (by kernel_rfl))
  f33 := ⟨Tryz.f91.name, by decide, Tryz.func91.trans (congrArg some (by kernel_rfl))⟩
  f34 := ⟨Tryz.f92.name, by decide, Tryz.func92.trans (congrArg some (by kernel_rfl))⟩
  f35 := ⟨Tryz.f93.name, by decide, Tryz.func93.trans (congrArg some (by kernel_rfl))⟩
  f40 := ⟨Tryz.f97.name, by decide, Tryz.func97.trans (congrArg some (by kernel_rfl))⟩
  t0 := Tryz.underlying0
  a0 := Tryz.isAgg0
  z0 := Tryz.sizeOf0
  v0 := Tryz.zeroValue0
  t3 := Tryz.underlying3
  a3 := Tryz.isAgg3
  z3 := Tryz.sizeOf3
  v3 := Tryz.zeroValue3
  t4 := Tryz.underlying4
  a4 := Tryz.isAgg4
  z4 := Tryz.sizeOf4
  v4 := Tryz.zeroValue4
  t5 := Tryz.underlying5
  a5 := Tryz.isAgg5
  z5 := Tryz.sizeOf5
  v5 := Tryz.zeroValue5
  t9 := Tryz.underlying9
  a9 := Tryz.isAgg9
  z9 := Tryz.sizeOf9
  v9 := Tryz.zeroValue9
  t22 := Tryz.underlying74
  a22 := Tryz.isAgg74
  z22 := Tryz.sizeOf74
  v22 := Tryz.zeroValue74
  t23 := Tryz.underlying74
  a23 := Tryz.isAgg74
  z23 := Tryz.sizeOf74
  v23 := Tryz.zeroValue74
  t25 := Tryz.underlying3
  a25 := Tryz.isAgg3
  z25 := Tryz.sizeOf3
  v25 := Tryz.zeroValue3
  t32 := Tryz.underlying105
  a32 := Tryz.isAgg105
  z32 := Tryz.sizeOf105
  v32 := Tryz.zeroValue105
  t35 := Tryz.underlying128
  a35 := Tryz.isAgg128
  z35 := Tryz.sizeOf128
  v35 := Tryz.zeroValue128
  t36 := Tryz.underlying129
  a36 := Tryz.isAgg129
  z36 := Tryz.sizeOf129
  v36 := Tryz.zeroValue129
  t41 := Tryz.underlying133
  a41 := Tryz.isAgg133
  z41 := Tryz.sizeOf133
  v41 := Tryz.zeroValue133
  t44 := Tryz.underlying136
  a44 := Tryz.isAgg136
  z44 := Tryz.sizeOf136
  v44 := Tryz.zeroValue136
  t46 := Tryz.underlying138
  a46 := Tryz.isAgg138
  z46 := Tryz.sizeOf138
  v46 := Tryz.zeroValue138
  t53 := Tryz.underlying143
  a53 := Tryz.isAgg143
  z53 := Tryz.sizeOf143
  v53 := Tryz.zeroValue143
  t57 := Tryz.underlying147
  a57 := Tryz.isAgg147
  z57 := Tryz.sizeOf147
  v57 := Tryz.zeroValue147
  t63 := Tryz.underlying151
  a63 := Tryz.isAgg151
  z63 := Tryz.sizeOf151
  v63 := Tryz.zeroValue151
  t64 := Tryz.underlying152
  a64 := Tryz.isAgg152
  z64 := Tryz.sizeOf152
  v64 := Tryz.zeroValue152 }
def collectA_ren : Go.Shelf.Ren := ⟨fun | 8 => 48 | 11 => 63 | n => n, fun | 26 => 3 | 28 => 77 | 24 => 74 | 0 => 0 | 33 => 107 | 4 => 4 | n => n, fun | n => n⟩
theorem collectA : Go.Proofs.SlLaysZI.n8 Tryz.prog collectA_ren := {
  mixed := by kernel_rfl
  f8 := ⟨Tryz.f48.name, by decide, Tryz.func48.trans (congrArg some (by kernel_rfl))⟩
  f11 := ⟨Tryz.f63.name, by decide, Tryz.func63.trans (congrArg some (by kernel_rfl))⟩
  t0 := Tryz.underlying0
  a0 := Tryz.isAgg0
  z0 := Tryz.sizeOf0
  v0 := Tryz.zeroValue0
  t24 := Tryz.underlying74
  a24 := Tryz.isAgg74
  z24 := Tryz.sizeOf74
  v24 := Tryz.zeroValue74
  t26 := Tryz.underlying3
  a26 := Tryz.isAgg3
  z26 := Tryz.sizeOf3
  v26 := Tryz.zeroValue3
  t28 := Tryz.underlying77
  a28 := Tryz.isAgg77
  z28 := Tryz.sizeOf77
  v28 := Tryz.zeroValue77
  i26 := by kernel_rfl }
end Go.Proofs.YtmnaggdhkggjhaaGreatDoor.E
