import Derived.Test.YtmnaggdhkggjhaaM7
/- The reference's Keep. -/
namespace Go.Proofs.Ytmnaggdhkggjhaa.E
open Go Go.RowKit
set_option linter.unusedSimpArgs false
set_option linter.unusedVariables false

def KeepR (hu : Nat) (c : Nat → Nat) (w : World) (g : Nat) (L : List OneM) (F : List (Int × Int)) (id n : Int) (R : Rep) (q : Value) (vs : List ValT) (rows : Nat) (r : Value) (w' : World) : Prop :=
  (argP id n R vs rows = true ∧ r = .int .i64 1 ∧ Below w.heap.size w w') ∨
  (argP id n R vs rows = false ∧ ∃ o, LookR L F id n o ∧ ((o.1 = 0 ∧ r = .int .i64 8 ∧ Below w.heap.size w w') ∨ (o.1 = 12 ∧ r = .int .i64 12 ∧ Below w.heap.size w w') ∨
    (o.1 = 7 ∧ r = .int .i64 0 ∧ ∃ c' vL' vF' p', (∀ k, k < w.heap.size → c' k = c k) ∧ RefAt hu c' w' g vL' vF' (putR L F ⟨id, n, R, p', q, vs⟩).1 (putR L F ⟨id, n, R, p', q, vs⟩).2 ∧ Turns (fun k => k = g) w w')))
theorem refKeep_spec {hu : Nat} {c : Nat → Nat} {w : World} {g : Nat} {vL vF : Value} {L : List OneM} {F : List (Int × Int)} (id n : Int) (R : Rep) (p q : Value) (vs : List ValT) (rows : List RowT) (h : RefAt hu c w g vL vF L F)
    (hp : Vals w [p] vs) (hq : RowsR w [q] rows) (hvl : vs.length ≤ 1000) (hl : F.length ≤ 80000) (hlL : L.length ≤ 90000) :
    CallP Try.prog 16 #[.pointer (some ⟨g, 0, none⟩), .int .i64 id, .int .i64 n, .agg (R.cells p q)] (KeepR hu c w g L F id n R q vs rows.length) w := by
  obtain ⟨A, cA, rfl, _, hmA⟩ := hp.slice
  obtain ⟨A', cA', rfl, _, hmA'⟩ := hq.slice
  refine ⟨S16.calls _ _ _ _ _ _ ?_⟩
  unfold S16
  refine bx ?_
  have hB : Blk (w.alloc (.cells (Value.agg (R.cells (.slice A vs.length cA) (.slice A' rows.length cA'))).cells 27)) w.heap.size 27 (R.cells (.slice A vs.length cA) (.slice A' rows.length cA')) := Blk.new w 27 _
  have ha := (Below.refl w.heap.size w).alloc (Nat.le_refl _) (.cells (Value.agg (R.cells (.slice A vs.length cA) (.slice A' rows.length cA'))).cells 27)
  generalize w.alloc (.cells (Value.agg (R.cells (.slice A vs.length cA) (.slice A' rows.length cA'))).cells 27) = w1 at *
  have c0 : w1.cell? ⟨w.heap.size, 0, none⟩ = some (.int .i64 R.code) := hB.cell 0
  have c2 : w1.cell? ⟨w.heap.size, 2, none⟩ = some (.slice A vs.length cA) := hB.cell 2
  have c3 : w1.cell? ⟨w.heap.size, 3, none⟩ = some (.slice A' rows.length cA') := hB.cell 3
  have c4 : w1.cell? ⟨w.heap.size, 4, none⟩ = some (.int .i64 R.id) := hB.cell 4
  have fail : ∀ {w' : World}, argP id n R vs rows.length = true → Below w.heap.size w w' → KeepR hu c w g L F id n R (.slice A' rows.length cA') vs rows.length (.int .i64 1) w' := fun h1 h2 => .inl ⟨h1, rfl, h2⟩
  refine (refBad_spec id n w1).mono ?_
  rintro _ _ ⟨rfl, rfl⟩
  cases hbad : badP id n with
  | true =>
    (repeat with_reducible first | refine nck ?_ | refine cdT ?_ | refine cdF ?_ | refine gdY ?_ | refine gdFT ?_ | refine gdTF ?_ | refine gdU ?_ | refine gaY ?_ | refine gaFT ?_ | refine gaTF ?_ | refine pickT ?_ | refine pickF ?_ | refine bi_lss_t (by omega) ?_ | refine bi_lss_f (by omega) ?_ | refine bi_add64 (by omega) ?_ | refine bi_sub64 (by omega) ?_ | refine bi_eql_t (by omega) ?_ | refine bi_eql_f (by omega) ?_ | refine bi_neq_t (by omega) ?_ | refine bi_neq_f (by omega) ?_ | refine bi_gtr_t (by omega) ?_ | refine bi_gtr_f (by omega) ?_ | refine bi_leq_t (by omega) ?_ | refine bi_leq_f (by omega) ?_ | refine bi_geq_t (by omega) ?_ | refine bi_geq_f (by omega) ?_ | refine bi_xt0 ?_ | refine bi_xt1 ?_ | refine bi_xt2 ?_ | refine bi_xt3 ?_ | refine bi_T ?_ | refine bi_F ?_ | refine bi_not ?_ | refine bi_and ?_ | refine bi_or ?_ | refine bi_xor ?_ | refine bi_shr (by omega) (by decide) ?_ | refine bi_shl (by omega) (by decide) ?_ | refine bi_quo64 (by omega) ?_ | refine bi_rem64 (by omega) ?_ | refine bi_mul64 (by omega) ?_ | refine bi_neg ?_ | refine bi_un_xor32 ?_ | refine bi_add ?_ | refine bi_sub ?_ | refine bi_mul ?_ | refine bi_quo (by decide) ?_ | refine bi_rem (by decide) ?_)
    exact fail (by simp [argP, hbad]) ha
  | false =>
  (repeat with_reducible first | refine fd r3 (by decide) ?_ | refine ld one25 c3 ?_ | refine nck ?_ | refine cdT ?_ | refine cdF ?_ | refine gdY ?_ | refine gdFT ?_ | refine gdTF ?_ | refine gdU ?_ | refine gaY ?_ | refine gaFT ?_ | refine gaTF ?_ | refine pickT ?_ | refine pickF ?_ | refine bi_lss_t (by omega) ?_ | refine bi_lss_f (by omega) ?_ | refine bi_add64 (by omega) ?_ | refine bi_sub64 (by omega) ?_ | refine bi_eql_t (by omega) ?_ | refine bi_eql_f (by omega) ?_ | refine bi_neq_t (by omega) ?_ | refine bi_neq_f (by omega) ?_ | refine bi_gtr_t (by omega) ?_ | refine bi_gtr_f (by omega) ?_ | refine bi_leq_t (by omega) ?_ | refine bi_leq_f (by omega) ?_ | refine bi_geq_t (by omega) ?_ | refine bi_geq_f (by omega) ?_ | refine bi_xt0 ?_ | refine bi_xt1 ?_ | refine bi_xt2 ?_ | refine bi_xt3 ?_ | refine bi_T ?_ | refine bi_F ?_ | refine bi_not ?_ | refine bi_and ?_ | refine bi_or ?_ | refine bi_xor ?_ | refine bi_shr (by omega) (by decide) ?_ | refine bi_shl (by omega) (by decide) ?_ | refine bi_quo64 (by omega) ?_ | refine bi_rem64 (by omega) ?_ | refine bi_mul64 (by omega) ?_ | refine bi_neg ?_ | refine bi_un_xor32 ?_ | refine bi_add ?_ | refine bi_sub ?_ | refine bi_mul ?_ | refine bi_quo (by decide) ?_ | refine bi_rem (by decide) ?_)
  refine ln und25 ?_
  (repeat with_reducible first | refine nck ?_ | refine cdT ?_ | refine cdF ?_ | refine gdY ?_ | refine gdFT ?_ | refine gdTF ?_ | refine gdU ?_ | refine gaY ?_ | refine gaFT ?_ | refine gaTF ?_ | refine pickT ?_ | refine pickF ?_ | refine bi_lss_t (by omega) ?_ | refine bi_lss_f (by omega) ?_ | refine bi_add64 (by omega) ?_ | refine bi_sub64 (by omega) ?_ | refine bi_eql_t (by omega) ?_ | refine bi_eql_f (by omega) ?_ | refine bi_neq_t (by omega) ?_ | refine bi_neq_f (by omega) ?_ | refine bi_gtr_t (by omega) ?_ | refine bi_gtr_f (by omega) ?_ | refine bi_leq_t (by omega) ?_ | refine bi_leq_f (by omega) ?_ | refine bi_geq_t (by omega) ?_ | refine bi_geq_f (by omega) ?_ | refine bi_xt0 ?_ | refine bi_xt1 ?_ | refine bi_xt2 ?_ | refine bi_xt3 ?_ | refine bi_T ?_ | refine bi_F ?_ | refine bi_not ?_ | refine bi_and ?_ | refine bi_or ?_ | refine bi_xor ?_ | refine bi_shr (by omega) (by decide) ?_ | refine bi_shl (by omega) (by decide) ?_ | refine bi_quo64 (by omega) ?_ | refine bi_rem64 (by omega) ?_ | refine bi_mul64 (by omega) ?_ | refine bi_neg ?_ | refine bi_un_xor32 ?_ | refine bi_add ?_ | refine bi_sub ?_ | refine bi_mul ?_ | refine bi_quo (by decide) ?_ | refine bi_rem (by decide) ?_)
  refine bi_gtr_c (fun hr => ?_) (fun hr => ?_)
  · (repeat with_reducible first | refine nck ?_ | refine cdT ?_ | refine cdF ?_ | refine gdY ?_ | refine gdFT ?_ | refine gdTF ?_ | refine gdU ?_ | refine gaY ?_ | refine gaFT ?_ | refine gaTF ?_ | refine pickT ?_ | refine pickF ?_ | refine bi_lss_t (by omega) ?_ | refine bi_lss_f (by omega) ?_ | refine bi_add64 (by omega) ?_ | refine bi_sub64 (by omega) ?_ | refine bi_eql_t (by omega) ?_ | refine bi_eql_f (by omega) ?_ | refine bi_neq_t (by omega) ?_ | refine bi_neq_f (by omega) ?_ | refine bi_gtr_t (by omega) ?_ | refine bi_gtr_f (by omega) ?_ | refine bi_leq_t (by omega) ?_ | refine bi_leq_f (by omega) ?_ | refine bi_geq_t (by omega) ?_ | refine bi_geq_f (by omega) ?_ | refine bi_xt0 ?_ | refine bi_xt1 ?_ | refine bi_xt2 ?_ | refine bi_xt3 ?_ | refine bi_T ?_ | refine bi_F ?_ | refine bi_not ?_ | refine bi_and ?_ | refine bi_or ?_ | refine bi_xor ?_ | refine bi_shr (by omega) (by decide) ?_ | refine bi_shl (by omega) (by decide) ?_ | refine bi_quo64 (by omega) ?_ | refine bi_rem64 (by omega) ?_ | refine bi_mul64 (by omega) ?_ | refine bi_neg ?_ | refine bi_un_xor32 ?_ | refine bi_add ?_ | refine bi_sub ?_ | refine bi_mul ?_ | refine bi_quo (by decide) ?_ | refine bi_rem (by decide) ?_)
    exact fail (by simp [argP]; omega) ha
  have hr0 : rows = [] := List.eq_nil_of_length_eq_zero (by omega)
  (repeat with_reducible first | refine fd r0 (by decide) ?_ | refine ld one22 c0 ?_ | refine nck ?_ | refine cdT ?_ | refine cdF ?_ | refine gdY ?_ | refine gdFT ?_ | refine gdTF ?_ | refine gdU ?_ | refine gaY ?_ | refine gaFT ?_ | refine gaTF ?_ | refine pickT ?_ | refine pickF ?_ | refine bi_lss_t (by omega) ?_ | refine bi_lss_f (by omega) ?_ | refine bi_add64 (by omega) ?_ | refine bi_sub64 (by omega) ?_ | refine bi_eql_t (by omega) ?_ | refine bi_eql_f (by omega) ?_ | refine bi_neq_t (by omega) ?_ | refine bi_neq_f (by omega) ?_ | refine bi_gtr_t (by omega) ?_ | refine bi_gtr_f (by omega) ?_ | refine bi_leq_t (by omega) ?_ | refine bi_leq_f (by omega) ?_ | refine bi_geq_t (by omega) ?_ | refine bi_geq_f (by omega) ?_ | refine bi_xt0 ?_ | refine bi_xt1 ?_ | refine bi_xt2 ?_ | refine bi_xt3 ?_ | refine bi_T ?_ | refine bi_F ?_ | refine bi_not ?_ | refine bi_and ?_ | refine bi_or ?_ | refine bi_xor ?_ | refine bi_shr (by omega) (by decide) ?_ | refine bi_shl (by omega) (by decide) ?_ | refine bi_quo64 (by omega) ?_ | refine bi_rem64 (by omega) ?_ | refine bi_mul64 (by omega) ?_ | refine bi_neg ?_ | refine bi_un_xor32 ?_ | refine bi_add ?_ | refine bi_sub ?_ | refine bi_mul ?_ | refine bi_quo (by decide) ?_ | refine bi_rem (by decide) ?_)
  refine bi_lss_c (fun h1 => ?_) (fun h1 => ?_)
  · (repeat with_reducible first | refine nck ?_ | refine cdT ?_ | refine cdF ?_ | refine gdY ?_ | refine gdFT ?_ | refine gdTF ?_ | refine gdU ?_ | refine gaY ?_ | refine gaFT ?_ | refine gaTF ?_ | refine pickT ?_ | refine pickF ?_ | refine bi_lss_t (by omega) ?_ | refine bi_lss_f (by omega) ?_ | refine bi_add64 (by omega) ?_ | refine bi_sub64 (by omega) ?_ | refine bi_eql_t (by omega) ?_ | refine bi_eql_f (by omega) ?_ | refine bi_neq_t (by omega) ?_ | refine bi_neq_f (by omega) ?_ | refine bi_gtr_t (by omega) ?_ | refine bi_gtr_f (by omega) ?_ | refine bi_leq_t (by omega) ?_ | refine bi_leq_f (by omega) ?_ | refine bi_geq_t (by omega) ?_ | refine bi_geq_f (by omega) ?_ | refine bi_xt0 ?_ | refine bi_xt1 ?_ | refine bi_xt2 ?_ | refine bi_xt3 ?_ | refine bi_T ?_ | refine bi_F ?_ | refine bi_not ?_ | refine bi_and ?_ | refine bi_or ?_ | refine bi_xor ?_ | refine bi_shr (by omega) (by decide) ?_ | refine bi_shl (by omega) (by decide) ?_ | refine bi_quo64 (by omega) ?_ | refine bi_rem64 (by omega) ?_ | refine bi_mul64 (by omega) ?_ | refine bi_neg ?_ | refine bi_un_xor32 ?_ | refine bi_add ?_ | refine bi_sub ?_ | refine bi_mul ?_ | refine bi_quo (by decide) ?_ | refine bi_rem (by decide) ?_)
    exact fail (by simp [argP]; omega) ha
  (repeat with_reducible first | refine fd r0 (by decide) ?_ | refine ld one22 c0 ?_ | refine nck ?_ | refine cdT ?_ | refine cdF ?_ | refine gdY ?_ | refine gdFT ?_ | refine gdTF ?_ | refine gdU ?_ | refine gaY ?_ | refine gaFT ?_ | refine gaTF ?_ | refine pickT ?_ | refine pickF ?_ | refine bi_lss_t (by omega) ?_ | refine bi_lss_f (by omega) ?_ | refine bi_add64 (by omega) ?_ | refine bi_sub64 (by omega) ?_ | refine bi_eql_t (by omega) ?_ | refine bi_eql_f (by omega) ?_ | refine bi_neq_t (by omega) ?_ | refine bi_neq_f (by omega) ?_ | refine bi_gtr_t (by omega) ?_ | refine bi_gtr_f (by omega) ?_ | refine bi_leq_t (by omega) ?_ | refine bi_leq_f (by omega) ?_ | refine bi_geq_t (by omega) ?_ | refine bi_geq_f (by omega) ?_ | refine bi_xt0 ?_ | refine bi_xt1 ?_ | refine bi_xt2 ?_ | refine bi_xt3 ?_ | refine bi_T ?_ | refine bi_F ?_ | refine bi_not ?_ | refine bi_and ?_ | refine bi_or ?_ | refine bi_xor ?_ | refine bi_shr (by omega) (by decide) ?_ | refine bi_shl (by omega) (by decide) ?_ | refine bi_quo64 (by omega) ?_ | refine bi_rem64 (by omega) ?_ | refine bi_mul64 (by omega) ?_ | refine bi_neg ?_ | refine bi_un_xor32 ?_ | refine bi_add ?_ | refine bi_sub ?_ | refine bi_mul ?_ | refine bi_quo (by decide) ?_ | refine bi_rem (by decide) ?_)
  refine bi_gtr_c (fun h2 => ?_) (fun h2 => ?_)
  · (repeat with_reducible first | refine nck ?_ | refine cdT ?_ | refine cdF ?_ | refine gdY ?_ | refine gdFT ?_ | refine gdTF ?_ | refine gdU ?_ | refine gaY ?_ | refine gaFT ?_ | refine gaTF ?_ | refine pickT ?_ | refine pickF ?_ | refine bi_lss_t (by omega) ?_ | refine bi_lss_f (by omega) ?_ | refine bi_add64 (by omega) ?_ | refine bi_sub64 (by omega) ?_ | refine bi_eql_t (by omega) ?_ | refine bi_eql_f (by omega) ?_ | refine bi_neq_t (by omega) ?_ | refine bi_neq_f (by omega) ?_ | refine bi_gtr_t (by omega) ?_ | refine bi_gtr_f (by omega) ?_ | refine bi_leq_t (by omega) ?_ | refine bi_leq_f (by omega) ?_ | refine bi_geq_t (by omega) ?_ | refine bi_geq_f (by omega) ?_ | refine bi_xt0 ?_ | refine bi_xt1 ?_ | refine bi_xt2 ?_ | refine bi_xt3 ?_ | refine bi_T ?_ | refine bi_F ?_ | refine bi_not ?_ | refine bi_and ?_ | refine bi_or ?_ | refine bi_xor ?_ | refine bi_shr (by omega) (by decide) ?_ | refine bi_shl (by omega) (by decide) ?_ | refine bi_quo64 (by omega) ?_ | refine bi_rem64 (by omega) ?_ | refine bi_mul64 (by omega) ?_ | refine bi_neg ?_ | refine bi_un_xor32 ?_ | refine bi_add ?_ | refine bi_sub ?_ | refine bi_mul ?_ | refine bi_quo (by decide) ?_ | refine bi_rem (by decide) ?_)
    exact fail (by simp [argP]; omega) ha
  (repeat with_reducible first | refine fd r4 (by decide) ?_ | refine ld one3 c4 ?_ | refine nck ?_ | refine cdT ?_ | refine cdF ?_ | refine gdY ?_ | refine gdFT ?_ | refine gdTF ?_ | refine gdU ?_ | refine gaY ?_ | refine gaFT ?_ | refine gaTF ?_ | refine pickT ?_ | refine pickF ?_ | refine bi_lss_t (by omega) ?_ | refine bi_lss_f (by omega) ?_ | refine bi_add64 (by omega) ?_ | refine bi_sub64 (by omega) ?_ | refine bi_eql_t (by omega) ?_ | refine bi_eql_f (by omega) ?_ | refine bi_neq_t (by omega) ?_ | refine bi_neq_f (by omega) ?_ | refine bi_gtr_t (by omega) ?_ | refine bi_gtr_f (by omega) ?_ | refine bi_leq_t (by omega) ?_ | refine bi_leq_f (by omega) ?_ | refine bi_geq_t (by omega) ?_ | refine bi_geq_f (by omega) ?_ | refine bi_xt0 ?_ | refine bi_xt1 ?_ | refine bi_xt2 ?_ | refine bi_xt3 ?_ | refine bi_T ?_ | refine bi_F ?_ | refine bi_not ?_ | refine bi_and ?_ | refine bi_or ?_ | refine bi_xor ?_ | refine bi_shr (by omega) (by decide) ?_ | refine bi_shl (by omega) (by decide) ?_ | refine bi_quo64 (by omega) ?_ | refine bi_rem64 (by omega) ?_ | refine bi_mul64 (by omega) ?_ | refine bi_neg ?_ | refine bi_un_xor32 ?_ | refine bi_add ?_ | refine bi_sub ?_ | refine bi_mul ?_ | refine bi_quo (by decide) ?_ | refine bi_rem (by decide) ?_)
  refine bi_lss_c (fun h3 => ?_) (fun h3 => ?_)
  · (repeat with_reducible first | refine nck ?_ | refine cdT ?_ | refine cdF ?_ | refine gdY ?_ | refine gdFT ?_ | refine gdTF ?_ | refine gdU ?_ | refine gaY ?_ | refine gaFT ?_ | refine gaTF ?_ | refine pickT ?_ | refine pickF ?_ | refine bi_lss_t (by omega) ?_ | refine bi_lss_f (by omega) ?_ | refine bi_add64 (by omega) ?_ | refine bi_sub64 (by omega) ?_ | refine bi_eql_t (by omega) ?_ | refine bi_eql_f (by omega) ?_ | refine bi_neq_t (by omega) ?_ | refine bi_neq_f (by omega) ?_ | refine bi_gtr_t (by omega) ?_ | refine bi_gtr_f (by omega) ?_ | refine bi_leq_t (by omega) ?_ | refine bi_leq_f (by omega) ?_ | refine bi_geq_t (by omega) ?_ | refine bi_geq_f (by omega) ?_ | refine bi_xt0 ?_ | refine bi_xt1 ?_ | refine bi_xt2 ?_ | refine bi_xt3 ?_ | refine bi_T ?_ | refine bi_F ?_ | refine bi_not ?_ | refine bi_and ?_ | refine bi_or ?_ | refine bi_xor ?_ | refine bi_shr (by omega) (by decide) ?_ | refine bi_shl (by omega) (by decide) ?_ | refine bi_quo64 (by omega) ?_ | refine bi_rem64 (by omega) ?_ | refine bi_mul64 (by omega) ?_ | refine bi_neg ?_ | refine bi_un_xor32 ?_ | refine bi_add ?_ | refine bi_sub ?_ | refine bi_mul ?_ | refine bi_quo (by decide) ?_ | refine bi_rem (by decide) ?_)
    exact fail (by simp [argP]; omega) ha
  (repeat with_reducible first | refine fd r4 (by decide) ?_ | refine ld one3 c4 ?_ | refine nck ?_ | refine cdT ?_ | refine cdF ?_ | refine gdY ?_ | refine gdFT ?_ | refine gdTF ?_ | refine gdU ?_ | refine gaY ?_ | refine gaFT ?_ | refine gaTF ?_ | refine pickT ?_ | refine pickF ?_ | refine bi_lss_t (by omega) ?_ | refine bi_lss_f (by omega) ?_ | refine bi_add64 (by omega) ?_ | refine bi_sub64 (by omega) ?_ | refine bi_eql_t (by omega) ?_ | refine bi_eql_f (by omega) ?_ | refine bi_neq_t (by omega) ?_ | refine bi_neq_f (by omega) ?_ | refine bi_gtr_t (by omega) ?_ | refine bi_gtr_f (by omega) ?_ | refine bi_leq_t (by omega) ?_ | refine bi_leq_f (by omega) ?_ | refine bi_geq_t (by omega) ?_ | refine bi_geq_f (by omega) ?_ | refine bi_xt0 ?_ | refine bi_xt1 ?_ | refine bi_xt2 ?_ | refine bi_xt3 ?_ | refine bi_T ?_ | refine bi_F ?_ | refine bi_not ?_ | refine bi_and ?_ | refine bi_or ?_ | refine bi_xor ?_ | refine bi_shr (by omega) (by decide) ?_ | refine bi_shl (by omega) (by decide) ?_ | refine bi_quo64 (by omega) ?_ | refine bi_rem64 (by omega) ?_ | refine bi_mul64 (by omega) ?_ | refine bi_neg ?_ | refine bi_un_xor32 ?_ | refine bi_add ?_ | refine bi_sub ?_ | refine bi_mul ?_ | refine bi_quo (by decide) ?_ | refine bi_rem (by decide) ?_)
  refine bi_gtr_c (fun h4 => ?_) (fun h4 => ?_)
  · (repeat with_reducible first | refine nck ?_ | refine cdT ?_ | refine cdF ?_ | refine gdY ?_ | refine gdFT ?_ | refine gdTF ?_ | refine gdU ?_ | refine gaY ?_ | refine gaFT ?_ | refine gaTF ?_ | refine pickT ?_ | refine pickF ?_ | refine bi_lss_t (by omega) ?_ | refine bi_lss_f (by omega) ?_ | refine bi_add64 (by omega) ?_ | refine bi_sub64 (by omega) ?_ | refine bi_eql_t (by omega) ?_ | refine bi_eql_f (by omega) ?_ | refine bi_neq_t (by omega) ?_ | refine bi_neq_f (by omega) ?_ | refine bi_gtr_t (by omega) ?_ | refine bi_gtr_f (by omega) ?_ | refine bi_leq_t (by omega) ?_ | refine bi_leq_f (by omega) ?_ | refine bi_geq_t (by omega) ?_ | refine bi_geq_f (by omega) ?_ | refine bi_xt0 ?_ | refine bi_xt1 ?_ | refine bi_xt2 ?_ | refine bi_xt3 ?_ | refine bi_T ?_ | refine bi_F ?_ | refine bi_not ?_ | refine bi_and ?_ | refine bi_or ?_ | refine bi_xor ?_ | refine bi_shr (by omega) (by decide) ?_ | refine bi_shl (by omega) (by decide) ?_ | refine bi_quo64 (by omega) ?_ | refine bi_rem64 (by omega) ?_ | refine bi_mul64 (by omega) ?_ | refine bi_neg ?_ | refine bi_un_xor32 ?_ | refine bi_add ?_ | refine bi_sub ?_ | refine bi_mul ?_ | refine bi_quo (by decide) ?_ | refine bi_rem (by decide) ?_)
    exact fail (by simp [argP]; omega) ha
  (repeat with_reducible first | refine fd r2 (by decide) ?_ | refine ld one24 c2 ?_ | refine nck ?_ | refine cdT ?_ | refine cdF ?_ | refine gdY ?_ | refine gdFT ?_ | refine gdTF ?_ | refine gdU ?_ | refine gaY ?_ | refine gaFT ?_ | refine gaTF ?_ | refine pickT ?_ | refine pickF ?_ | refine bi_lss_t (by omega) ?_ | refine bi_lss_f (by omega) ?_ | refine bi_add64 (by omega) ?_ | refine bi_sub64 (by omega) ?_ | refine bi_eql_t (by omega) ?_ | refine bi_eql_f (by omega) ?_ | refine bi_neq_t (by omega) ?_ | refine bi_neq_f (by omega) ?_ | refine bi_gtr_t (by omega) ?_ | refine bi_gtr_f (by omega) ?_ | refine bi_leq_t (by omega) ?_ | refine bi_leq_f (by omega) ?_ | refine bi_geq_t (by omega) ?_ | refine bi_geq_f (by omega) ?_ | refine bi_xt0 ?_ | refine bi_xt1 ?_ | refine bi_xt2 ?_ | refine bi_xt3 ?_ | refine bi_T ?_ | refine bi_F ?_ | refine bi_not ?_ | refine bi_and ?_ | refine bi_or ?_ | refine bi_xor ?_ | refine bi_shr (by omega) (by decide) ?_ | refine bi_shl (by omega) (by decide) ?_ | refine bi_quo64 (by omega) ?_ | refine bi_rem64 (by omega) ?_ | refine bi_mul64 (by omega) ?_ | refine bi_neg ?_ | refine bi_un_xor32 ?_ | refine bi_add ?_ | refine bi_sub ?_ | refine bi_mul ?_ | refine bi_quo (by decide) ?_ | refine bi_rem (by decide) ?_)
  refine ln und24 ?_
  (repeat with_reducible first | refine nck ?_ | refine cdT ?_ | refine cdF ?_ | refine gdY ?_ | refine gdFT ?_ | refine gdTF ?_ | refine gdU ?_ | refine gaY ?_ | refine gaFT ?_ | refine gaTF ?_ | refine pickT ?_ | refine pickF ?_ | refine bi_lss_t (by omega) ?_ | refine bi_lss_f (by omega) ?_ | refine bi_add64 (by omega) ?_ | refine bi_sub64 (by omega) ?_ | refine bi_eql_t (by omega) ?_ | refine bi_eql_f (by omega) ?_ | refine bi_neq_t (by omega) ?_ | refine bi_neq_f (by omega) ?_ | refine bi_gtr_t (by omega) ?_ | refine bi_gtr_f (by omega) ?_ | refine bi_leq_t (by omega) ?_ | refine bi_leq_f (by omega) ?_ | refine bi_geq_t (by omega) ?_ | refine bi_geq_f (by omega) ?_ | refine bi_xt0 ?_ | refine bi_xt1 ?_ | refine bi_xt2 ?_ | refine bi_xt3 ?_ | refine bi_T ?_ | refine bi_F ?_ | refine bi_not ?_ | refine bi_and ?_ | refine bi_or ?_ | refine bi_xor ?_ | refine bi_shr (by omega) (by decide) ?_ | refine bi_shl (by omega) (by decide) ?_ | refine bi_quo64 (by omega) ?_ | refine bi_rem64 (by omega) ?_ | refine bi_mul64 (by omega) ?_ | refine bi_neg ?_ | refine bi_un_xor32 ?_ | refine bi_add ?_ | refine bi_sub ?_ | refine bi_mul ?_ | refine bi_quo (by decide) ?_ | refine bi_rem (by decide) ?_)
  refine bi_gtr_c (fun h5 => ?a) (fun h5 => ?b)
  case' a =>
    (repeat with_reducible first | refine fd r2 (by decide) ?_ | refine ld one24 c2 ?_ | refine nck ?_ | refine cdT ?_ | refine cdF ?_ | refine gdY ?_ | refine gdFT ?_ | refine gdTF ?_ | refine gdU ?_ | refine gaY ?_ | refine gaFT ?_ | refine gaTF ?_ | refine pickT ?_ | refine pickF ?_ | refine bi_lss_t (by omega) ?_ | refine bi_lss_f (by omega) ?_ | refine bi_add64 (by omega) ?_ | refine bi_sub64 (by omega) ?_ | refine bi_eql_t (by omega) ?_ | refine bi_eql_f (by omega) ?_ | refine bi_neq_t (by omega) ?_ | refine bi_neq_f (by omega) ?_ | refine bi_gtr_t (by omega) ?_ | refine bi_gtr_f (by omega) ?_ | refine bi_leq_t (by omega) ?_ | refine bi_leq_f (by omega) ?_ | refine bi_geq_t (by omega) ?_ | refine bi_geq_f (by omega) ?_ | refine bi_xt0 ?_ | refine bi_xt1 ?_ | refine bi_xt2 ?_ | refine bi_xt3 ?_ | refine bi_T ?_ | refine bi_F ?_ | refine bi_not ?_ | refine bi_and ?_ | refine bi_or ?_ | refine bi_xor ?_ | refine bi_shr (by omega) (by decide) ?_ | refine bi_shl (by omega) (by decide) ?_ | refine bi_quo64 (by omega) ?_ | refine bi_rem64 (by omega) ?_ | refine bi_mul64 (by omega) ?_ | refine bi_neg ?_ | refine bi_un_xor32 ?_ | refine bi_add ?_ | refine bi_sub ?_ | refine bi_mul ?_ | refine bi_quo (by decide) ?_ | refine bi_rem (by decide) ?_)
    refine (refCheck_spec _ vs w1 (keeps_Vals _ _ _ _ ha hp) hvl).mono ?_
    rintro _ w2 ⟨rfl, hb2⟩
    have hb2' := below_then ha hb2
    (repeat with_reducible first | refine nck ?_ | refine cdT ?_ | refine cdF ?_ | refine gdY ?_ | refine gdFT ?_ | refine gdTF ?_ | refine gdU ?_ | refine gaY ?_ | refine gaFT ?_ | refine gaTF ?_ | refine pickT ?_ | refine pickF ?_ | refine bi_lss_t (by omega) ?_ | refine bi_lss_f (by omega) ?_ | refine bi_add64 (by omega) ?_ | refine bi_sub64 (by omega) ?_ | refine bi_eql_t (by omega) ?_ | refine bi_eql_f (by omega) ?_ | refine bi_neq_t (by omega) ?_ | refine bi_neq_f (by omega) ?_ | refine bi_gtr_t (by omega) ?_ | refine bi_gtr_f (by omega) ?_ | refine bi_leq_t (by omega) ?_ | refine bi_leq_f (by omega) ?_ | refine bi_geq_t (by omega) ?_ | refine bi_geq_f (by omega) ?_ | refine bi_xt0 ?_ | refine bi_xt1 ?_ | refine bi_xt2 ?_ | refine bi_xt3 ?_ | refine bi_T ?_ | refine bi_F ?_ | refine bi_not ?_ | refine bi_and ?_ | refine bi_or ?_ | refine bi_xor ?_ | refine bi_shr (by omega) (by decide) ?_ | refine bi_shl (by omega) (by decide) ?_ | refine bi_quo64 (by omega) ?_ | refine bi_rem64 (by omega) ?_ | refine bi_mul64 (by omega) ?_ | refine bi_neg ?_ | refine bi_un_xor32 ?_ | refine bi_add ?_ | refine bi_sub ?_ | refine bi_mul ?_ | refine bi_quo (by decide) ?_ | refine bi_rem (by decide) ?_)
    refine bi_neq_c (fun h6 => ?a1) (fun h6 => ?a2)
  case a1 =>
    (repeat with_reducible first | refine nck ?_ | refine cdT ?_ | refine cdF ?_ | refine gdY ?_ | refine gdFT ?_ | refine gdTF ?_ | refine gdU ?_ | refine gaY ?_ | refine gaFT ?_ | refine gaTF ?_ | refine pickT ?_ | refine pickF ?_ | refine bi_lss_t (by omega) ?_ | refine bi_lss_f (by omega) ?_ | refine bi_add64 (by omega) ?_ | refine bi_sub64 (by omega) ?_ | refine bi_eql_t (by omega) ?_ | refine bi_eql_f (by omega) ?_ | refine bi_neq_t (by omega) ?_ | refine bi_neq_f (by omega) ?_ | refine bi_gtr_t (by omega) ?_ | refine bi_gtr_f (by omega) ?_ | refine bi_leq_t (by omega) ?_ | refine bi_leq_f (by omega) ?_ | refine bi_geq_t (by omega) ?_ | refine bi_geq_f (by omega) ?_ | refine bi_xt0 ?_ | refine bi_xt1 ?_ | refine bi_xt2 ?_ | refine bi_xt3 ?_ | refine bi_T ?_ | refine bi_F ?_ | refine bi_not ?_ | refine bi_and ?_ | refine bi_or ?_ | refine bi_xor ?_ | refine bi_shr (by omega) (by decide) ?_ | refine bi_shl (by omega) (by decide) ?_ | refine bi_quo64 (by omega) ?_ | refine bi_rem64 (by omega) ?_ | refine bi_mul64 (by omega) ?_ | refine bi_neg ?_ | refine bi_un_xor32 ?_ | refine bi_add ?_ | refine bi_sub ?_ | refine bi_mul ?_ | refine bi_quo (by decide) ?_ | refine bi_rem (by decide) ?_)
    exact fail (by simp [argP, h6]; omega) hb2'
  case' a2 =>
    have hB2 := hB.below' hb2
    have harg : argP id n R vs rows.length = false := by
      have h6' : chk vs = 0 := by simpa using h6
      simp [argP, hbad, hr0, h6']; omega
  case' b =>
    have hb2' := ha
    have hB2 := hB
    generalize w1 = w2 at *
    have harg : argP id n R vs rows.length = false := by
      have : vs = [] := List.eq_nil_of_length_eq_zero (by omega)
      simp [argP, hbad, hr0, this]; omega
  all_goals
    (repeat with_reducible first | refine nck ?_ | refine cdT ?_ | refine cdF ?_ | refine gdY ?_ | refine gdFT ?_ | refine gdTF ?_ | refine gdU ?_ | refine gaY ?_ | refine gaFT ?_ | refine gaTF ?_ | refine pickT ?_ | refine pickF ?_ | refine bi_lss_t (by omega) ?_ | refine bi_lss_f (by omega) ?_ | refine bi_add64 (by omega) ?_ | refine bi_sub64 (by omega) ?_ | refine bi_eql_t (by omega) ?_ | refine bi_eql_f (by omega) ?_ | refine bi_neq_t (by omega) ?_ | refine bi_neq_f (by omega) ?_ | refine bi_gtr_t (by omega) ?_ | refine bi_gtr_f (by omega) ?_ | refine bi_leq_t (by omega) ?_ | refine bi_leq_f (by omega) ?_ | refine bi_geq_t (by omega) ?_ | refine bi_geq_f (by omega) ?_ | refine bi_xt0 ?_ | refine bi_xt1 ?_ | refine bi_xt2 ?_ | refine bi_xt3 ?_ | refine bi_T ?_ | refine bi_F ?_ | refine bi_not ?_ | refine bi_and ?_ | refine bi_or ?_ | refine bi_xor ?_ | refine bi_shr (by omega) (by decide) ?_ | refine bi_shl (by omega) (by decide) ?_ | refine bi_quo64 (by omega) ?_ | refine bi_rem64 (by omega) ?_ | refine bi_mul64 (by omega) ?_ | refine bi_neg ?_ | refine bi_un_xor32 ?_ | refine bi_add ?_ | refine bi_sub ?_ | refine bi_mul ?_ | refine bi_quo (by decide) ?_ | refine bi_rem (by decide) ?_)
    have h2 := h.below hb2'
    refine (refLook_spec id n h2 (by omega) (by omega)).mono ?_
    rintro _ w3 ⟨o, hlook, rfl, hb3⟩
    have hb3' := below_then hb2' hb3
    have h3 := h2.below hb3
    have hB3 := hB2.below' hb3
    (repeat with_reducible first | refine nck ?_ | refine cdT ?_ | refine cdF ?_ | refine gdY ?_ | refine gdFT ?_ | refine gdTF ?_ | refine gdU ?_ | refine gaY ?_ | refine gaFT ?_ | refine gaTF ?_ | refine pickT ?_ | refine pickF ?_ | refine bi_lss_t (by omega) ?_ | refine bi_lss_f (by omega) ?_ | refine bi_add64 (by omega) ?_ | refine bi_sub64 (by omega) ?_ | refine bi_eql_t (by omega) ?_ | refine bi_eql_f (by omega) ?_ | refine bi_neq_t (by omega) ?_ | refine bi_neq_f (by omega) ?_ | refine bi_gtr_t (by omega) ?_ | refine bi_gtr_f (by omega) ?_ | refine bi_leq_t (by omega) ?_ | refine bi_leq_f (by omega) ?_ | refine bi_geq_t (by omega) ?_ | refine bi_geq_f (by omega) ?_ | refine bi_xt0 ?_ | refine bi_xt1 ?_ | refine bi_xt2 ?_ | refine bi_xt3 ?_ | refine bi_T ?_ | refine bi_F ?_ | refine bi_not ?_ | refine bi_and ?_ | refine bi_or ?_ | refine bi_xor ?_ | refine bi_shr (by omega) (by decide) ?_ | refine bi_shl (by omega) (by decide) ?_ | refine bi_quo64 (by omega) ?_ | refine bi_rem64 (by omega) ?_ | refine bi_mul64 (by omega) ?_ | refine bi_neg ?_ | refine bi_un_xor32 ?_ | refine bi_add ?_ | refine bi_sub ?_ | refine bi_mul ?_ | refine bi_quo (by decide) ?_ | refine bi_rem (by decide) ?_)
    refine al z27 ?_
    have hb4 := (Below.refl w3.heap.size w3).alloc (Nat.le_refl _) (.cells (Value.agg (zeroRep.cells (.slice none 0 0) (.slice none 0 0))).cells 27)
    have hN4 : Blk (w3.alloc (.cells (Value.agg (zeroRep.cells (.slice none 0 0) (.slice none 0 0))).cells 27)) w3.heap.size 27 (zeroRep.cells (.slice none 0 0) (.slice none 0 0)) := Blk.new w3 27 _
    generalize w3.alloc (.cells (Value.agg (zeroRep.cells (.slice none 0 0) (.slice none 0 0))).cells 27) = w4 at *
    obtain ⟨oc, hoc, hone⟩ : ∃ oc : Array Value, oc = cellsOf o.2 ∧ (oc.size = 5 ∧ oc.all (·.oneCell') = true) := by
      refine ⟨_, rfl, ?_⟩
      rcases hlook with ⟨_, e⟩ | ⟨_, _, e⟩ | ⟨_, _, ⟨x, hx, _, _, e⟩ | ⟨_, e⟩⟩ <;> rw [e]
      · exact ⟨rfl, cellsR_one _ _ _ rfl rfl⟩
      · exact ⟨rfl, cellsR_one _ _ _ rfl rfl⟩
      · exact ⟨rfl, cellsR_one _ _ _ (h3.el x hx).one (h3.el x hx).oneq⟩
      · exact ⟨rfl, cellsR_one _ _ _ rfl rfl⟩
    rw [← hoc]
    refine stA hN4 (by rw [sz27, hone.1]) (by rw [hone.1]; rfl) hone.2 ?_
    have hb5 : Below w3.heap.size w3 (w4.setRow w3.heap.size oc) := below_setRow hb4 (Nat.le_refl _) _
    generalize w4.setRow w3.heap.size oc = w5 at *
    have hb5' := below_then hb3' hb5
    have h5' := h3.below hb5
    have hB5 := hB3.below' hb5
    have hcase : o.1 = 0 ∨ o.1 = 12 ∨ o.1 = 7 := by
      rcases hlook with ⟨hb, e⟩ | ⟨_, _, e⟩ | ⟨_, _, ⟨x, hx, _, _, e⟩ | ⟨_, e⟩⟩
      · rw [hbad] at hb; cases hb
      · rw [e]; exact .inr (.inl rfl)
      · rw [e]; exact .inl rfl
      · rw [e]; exact .inr (.inr rfl)
    rcases hcase with e | e | e
    · rw [e]
      (repeat with_reducible first | refine nck ?_ | refine cdT ?_ | refine cdF ?_ | refine gdY ?_ | refine gdFT ?_ | refine gdTF ?_ | refine gdU ?_ | refine gaY ?_ | refine gaFT ?_ | refine gaTF ?_ | refine pickT ?_ | refine pickF ?_ | refine bi_lss_t (by omega) ?_ | refine bi_lss_f (by omega) ?_ | refine bi_add64 (by omega) ?_ | refine bi_sub64 (by omega) ?_ | refine bi_eql_t (by omega) ?_ | refine bi_eql_f (by omega) ?_ | refine bi_neq_t (by omega) ?_ | refine bi_neq_f (by omega) ?_ | refine bi_gtr_t (by omega) ?_ | refine bi_gtr_f (by omega) ?_ | refine bi_leq_t (by omega) ?_ | refine bi_leq_f (by omega) ?_ | refine bi_geq_t (by omega) ?_ | refine bi_geq_f (by omega) ?_ | refine bi_xt0 ?_ | refine bi_xt1 ?_ | refine bi_xt2 ?_ | refine bi_xt3 ?_ | refine bi_T ?_ | refine bi_F ?_ | refine bi_not ?_ | refine bi_and ?_ | refine bi_or ?_ | refine bi_xor ?_ | refine bi_shr (by omega) (by decide) ?_ | refine bi_shl (by omega) (by decide) ?_ | refine bi_quo64 (by omega) ?_ | refine bi_rem64 (by omega) ?_ | refine bi_mul64 (by omega) ?_ | refine bi_neg ?_ | refine bi_un_xor32 ?_ | refine bi_add ?_ | refine bi_sub ?_ | refine bi_mul ?_ | refine bi_quo (by decide) ?_ | refine bi_rem (by decide) ?_)
      exact .inr ⟨harg, o, hlook, .inl ⟨e, rfl, hb5'⟩⟩
    · rw [e]
      (repeat with_reducible first | refine nck ?_ | refine cdT ?_ | refine cdF ?_ | refine gdY ?_ | refine gdFT ?_ | refine gdTF ?_ | refine gdU ?_ | refine gaY ?_ | refine gaFT ?_ | refine gaTF ?_ | refine pickT ?_ | refine pickF ?_ | refine bi_lss_t (by omega) ?_ | refine bi_lss_f (by omega) ?_ | refine bi_add64 (by omega) ?_ | refine bi_sub64 (by omega) ?_ | refine bi_eql_t (by omega) ?_ | refine bi_eql_f (by omega) ?_ | refine bi_neq_t (by omega) ?_ | refine bi_neq_f (by omega) ?_ | refine bi_gtr_t (by omega) ?_ | refine bi_gtr_f (by omega) ?_ | refine bi_leq_t (by omega) ?_ | refine bi_leq_f (by omega) ?_ | refine bi_geq_t (by omega) ?_ | refine bi_geq_f (by omega) ?_ | refine bi_xt0 ?_ | refine bi_xt1 ?_ | refine bi_xt2 ?_ | refine bi_xt3 ?_ | refine bi_T ?_ | refine bi_F ?_ | refine bi_not ?_ | refine bi_and ?_ | refine bi_or ?_ | refine bi_xor ?_ | refine bi_shr (by omega) (by decide) ?_ | refine bi_shl (by omega) (by decide) ?_ | refine bi_quo64 (by omega) ?_ | refine bi_rem64 (by omega) ?_ | refine bi_mul64 (by omega) ?_ | refine bi_neg ?_ | refine bi_un_xor32 ?_ | refine bi_add ?_ | refine bi_sub ?_ | refine bi_mul ?_ | refine bi_quo (by decide) ?_ | refine bi_rem (by decide) ?_)
      exact .inr ⟨harg, o, hlook, .inr (.inl ⟨e, rfl, hb5'⟩)⟩
    · rw [e]
      have d2 : w5.cell? ⟨w.heap.size, 2, none⟩ = some (.slice A vs.length cA) := hB5.cell 2
      (repeat with_reducible first | refine fd r2 (by decide) ?_ | refine ld one24 d2 ?_ | refine nck ?_ | refine cdT ?_ | refine cdF ?_ | refine gdY ?_ | refine gdFT ?_ | refine gdTF ?_ | refine gdU ?_ | refine gaY ?_ | refine gaFT ?_ | refine gaTF ?_ | refine pickT ?_ | refine pickF ?_ | refine bi_lss_t (by omega) ?_ | refine bi_lss_f (by omega) ?_ | refine bi_add64 (by omega) ?_ | refine bi_sub64 (by omega) ?_ | refine bi_eql_t (by omega) ?_ | refine bi_eql_f (by omega) ?_ | refine bi_neq_t (by omega) ?_ | refine bi_neq_f (by omega) ?_ | refine bi_gtr_t (by omega) ?_ | refine bi_gtr_f (by omega) ?_ | refine bi_leq_t (by omega) ?_ | refine bi_leq_f (by omega) ?_ | refine bi_geq_t (by omega) ?_ | refine bi_geq_f (by omega) ?_ | refine bi_xt0 ?_ | refine bi_xt1 ?_ | refine bi_xt2 ?_ | refine bi_xt3 ?_ | refine bi_T ?_ | refine bi_F ?_ | refine bi_not ?_ | refine bi_and ?_ | refine bi_or ?_ | refine bi_xor ?_ | refine bi_shr (by omega) (by decide) ?_ | refine bi_shl (by omega) (by decide) ?_ | refine bi_quo64 (by omega) ?_ | refine bi_rem64 (by omega) ?_ | refine bi_mul64 (by omega) ?_ | refine bi_neg ?_ | refine bi_un_xor32 ?_ | refine bi_add ?_ | refine bi_sub ?_ | refine bi_mul ?_ | refine bi_quo (by decide) ?_ | refine bi_rem (by decide) ?_)
      have hpv := keeps_Vals _ _ _ _ hb5' hp
      have hnil : w5.ownsRow 0 36 3 (.slice none 0 0) 0 [] := ⟨by simp, .inl ⟨rfl, rfl⟩⟩
      refine apR w5.heap.size und24 inf36 (by rfl) (by decide) hnil (Fresh.nil _) (Nat.le_refl _) (fun _ => rfl) valF_one (fun w us x h => (val_cells h).1) hpv (by omega) (by omega) ?_
      intro p6 w6 ho6 hf6 hb6 _
      rw [Nat.zero_add, List.nil_append] at ho6
      have hB6 := hB5.below' hb6
      have hs5 := hb5'.size
      have hwl := hB5.lt
      (repeat with_reducible first | refine fd r2 (by decide) ?_ | refine nck ?_ | refine cdT ?_ | refine cdF ?_ | refine gdY ?_ | refine gdFT ?_ | refine gdTF ?_ | refine gdU ?_ | refine gaY ?_ | refine gaFT ?_ | refine gaTF ?_ | refine pickT ?_ | refine pickF ?_ | refine bi_lss_t (by omega) ?_ | refine bi_lss_f (by omega) ?_ | refine bi_add64 (by omega) ?_ | refine bi_sub64 (by omega) ?_ | refine bi_eql_t (by omega) ?_ | refine bi_eql_f (by omega) ?_ | refine bi_neq_t (by omega) ?_ | refine bi_neq_f (by omega) ?_ | refine bi_gtr_t (by omega) ?_ | refine bi_gtr_f (by omega) ?_ | refine bi_leq_t (by omega) ?_ | refine bi_leq_f (by omega) ?_ | refine bi_geq_t (by omega) ?_ | refine bi_geq_f (by omega) ?_ | refine bi_xt0 ?_ | refine bi_xt1 ?_ | refine bi_xt2 ?_ | refine bi_xt3 ?_ | refine bi_T ?_ | refine bi_F ?_ | refine bi_not ?_ | refine bi_and ?_ | refine bi_or ?_ | refine bi_xor ?_ | refine bi_shr (by omega) (by decide) ?_ | refine bi_shl (by omega) (by decide) ?_ | refine bi_quo64 (by omega) ?_ | refine bi_rem64 (by omega) ?_ | refine bi_mul64 (by omega) ?_ | refine bi_neg ?_ | refine bi_un_xor32 ?_ | refine bi_add ?_ | refine bi_sub ?_ | refine bi_mul ?_ | refine bi_quo (by decide) ?_ | refine bi_rem (by decide) ?_)
      refine st sz24 (own1 ho6) (by rw [hB6.cell 2]; rfl) (hB6.frozen 2) ?_
      have hT7 := Turns.setCell (F := fun k => k = w.heap.size) (p := ⟨w.heap.size, 2, none⟩) (Turns.refl _ w6) (.inl rfl) p6
      have hB7 := hB6.set_ 2 p6
      rw [setR2] at hB7
      have ho7 := ownsRow_turns ho6 hT7 (fun k hk e => by have := hf6 k hk; omega)
      have hb7 : Below w.heap.size w (w6.setCell ⟨w.heap.size, 2, none⟩ p6) := (below_then hb5' hb6).trans (hT7.below (by have := hb6.size; omega) fun k hk e => by omega)
      generalize w6.setCell ⟨w.heap.size, 2, none⟩ p6 = w7 at *
      refine ldA agg27 hB7 (by exact sz27) ?_
      refine bd (cells := (oneF ⟨id, n, R, p6, .slice A' rows.length cA', vs⟩).toArray) (by kernel_rfl) ?_
      have h7 : RefAt hu (col c w.heap.size 999) w7 g vL vF L F := (h.re (col_lt _ _ _)).below hb7
      have hx7 : ElAt (col c w.heap.size 999) w7 ⟨id, n, R, p6, .slice A' rows.length cA', vs⟩ := ⟨OwnR.of_own ho7, fun k hk => col_ge _ _ _ (by have := hf6 k hk; omega), vals_ok hp, hvl, A', cA', by rw [hr0]; rfl, hmA'⟩
      refine (put_spec _ h7 hx7 hl hlL).mono ?_
      rintro _ w8 ⟨c8, vL8, vF8, hc8, h8, hT8⟩
      have hs7 := hb7.size
      exact .inr ⟨harg, o, hlook, .inr (.inr ⟨e, rfl, c8, vL8, vF8, p6, fun k hk => by rw [hc8 k (by omega), col_lt _ _ _ k hk], h8, (Turns.of_below hb7).trans (hT8.mono fun k _ e => .inl e)⟩)⟩
end Go.Proofs.Ytmnaggdhkggjhaa.E
/- The reference's table and the views of clients: the same. -/
namespace Go.Proofs.Ytmnaggdhkggjhaa.E
open Go Go.RowKit
set_option linter.unusedSimpArgs false
set_option linter.unusedVariables false

def pairOf (x : OneM) : Int × Rm := (x.no, (x.R, x.vs))
def ofCl (L : List OneM) (id : Int) : List (Int × Rm) := (L.filter fun x => decide (x.cl = id)).map pairOf
structure Refines (L : List OneM) (F : List (Int × Int)) (V : Int → VC) : Prop where
  sorted : L.Pairwise fun y x => ltO y x = true
  rise : Rising F
  fl : ∀ id, floorOf F id = (V id).1
  l : ∀ id, ofCl L id = (V id).2
theorem refines0 : Refines [] [] V0 := ⟨List.Pairwise.nil, List.Pairwise.nil, fun _ => rfl, fun _ => rfl⟩
theorem knownL_eq (L : List OneM) (id : Int) : knownL L id = (ofCl L id).map (·.1) := by
  unfold knownL ofCl
  rw [List.map_map]; rfl
/-! ### floors -/
theorem putF_get (id n : Int) : ∀ (F : List (Int × Int)), Rising F → ∀ j, getK j (putF id n F) = if j = id then some n else getK j F
  | [], _, j => by
    simp only [putF, getK]
  | (a, m) :: r, h, j => by
    obtain ⟨h1, h2⟩ := List.pairwise_cons.1 h
    rw [putF]
    split
    · rename_i ha
      rw [getK, getK, putF_get id n r h2 j]
      by_cases hj : j = a
      · rw [if_pos hj, if_pos hj, if_neg (by omega)]
      · rw [if_neg hj, if_neg hj]
    · rename_i ha
      split
      · rename_i he
        subst he
        rw [getK, getK]
        by_cases hj : j = a
        · rw [if_pos hj, if_pos hj]
        · rw [if_neg hj, if_neg hj, if_neg hj]
      · rw [getK]
theorem putF_mem {id n : Int} : ∀ {F : List (Int × Int)} {p : Int × Int}, p ∈ putF id n F → p = (id, n) ∨ p ∈ F
  | [], p, h => by simp only [putF, List.mem_cons, List.not_mem_nil, or_false] at h; exact .inl h
  | (a, m) :: r, p, h => by
    rw [putF] at h
    split at h
    · rcases List.mem_cons.1 h with h | h
      · exact .inr (by simp [h])
      · exact (putF_mem h).imp (fun h => h) (fun h => by simp [h])
    · split at h
      · rcases List.mem_cons.1 h with h | h
        · exact .inl h
        · exact .inr (by simp [h])
      · rcases List.mem_cons.1 h with h | h
        · exact .inl h
        · exact .inr h
theorem putF_rising (id n : Int) : ∀ (F : List (Int × Int)), Rising F → Rising (putF id n F)
  | [], _ => by simp [putF, Rising]
  | (a, m) :: r, h => by
    obtain ⟨h1, h2⟩ := List.pairwise_cons.1 h
    rw [putF]
    split
    · rename_i ha
      refine List.pairwise_cons.2 ⟨fun p hp => ?_, putF_rising id n r h2⟩
      rcases putF_mem hp with rfl | hp
      · exact ha
      · exact h1 p hp
    · rename_i ha
      split
      · rename_i he
        subst he
        exact List.pairwise_cons.2 ⟨h1, h2⟩
      · rename_i he
        refine List.pairwise_cons.2 ⟨fun p hp => ?_, h⟩
        rcases List.mem_cons.1 hp with rfl | hp
        · simp only; omega
        · have := h1 p hp; simp only at this ⊢; omega
theorem putF_len (id n : Int) : ∀ F : List (Int × Int), (putF id n F).length ≤ F.length + 1
  | [] => by simp [putF]
  | (a, m) :: r => by
    have ih := putF_len id n r
    rw [putF]
    split
    · simp; exact ih
    · split <;> simp
theorem raiseF_len (F : List (Int × Int)) (id n : Int) : (raiseF F id n).length ≤ F.length + 1 := by
  unfold raiseF
  split
  · exact putF_len id n F
  · omega
theorem raiseF_rising {F : List (Int × Int)} (h : Rising F) (id n : Int) : Rising (raiseF F id n) := by
  unfold raiseF
  split
  · exact putF_rising id n F h
  · exact h
theorem raiseF_floor {F : List (Int × Int)} (h : Rising F) (id n j : Int) : floorOf (raiseF F id n) j = if j = id then max (floorOf F id) n else floorOf F j := by
  unfold raiseF
  split
  · rename_i hlt
    rw [floorOf, putF_get id n F h j]
    by_cases hj : j = id
    · rw [if_pos hj, if_pos hj]
      show n = _
      omega
    · rw [if_neg hj, if_neg hj]; rfl
  · rename_i hlt
    by_cases hj : j = id
    · subst hj
      rw [if_pos rfl]; omega
    · rw [if_neg hj]
/-! ### rows of answers -/
theorem ofCl_cons (y : OneM) (r : List OneM) (id : Int) : ofCl (y :: r) id = if y.cl = id then pairOf y :: ofCl r id else ofCl r id := by
  unfold ofCl
  rw [List.filter_cons]
  by_cases h : y.cl = id <;> simp [h]
theorem ltO_trans {x y z : OneM} (h1 : ltO x y = true) (h2 : ltO y z = true) : ltO x z = true := by
  simp only [ltO, Bool.or_eq_true, Bool.and_eq_true, decide_eq_true_eq] at *
  omega
theorem ltO_total {x y : OneM} (h : ¬ ltO y x = true) (hne : ¬ (y.cl = x.cl ∧ y.no = x.no)) : ltO x y = true := by
  simp only [ltO, Bool.or_eq_true, Bool.and_eq_true, decide_eq_true_eq] at *
  omega
theorem putL_sorted (x : OneM) : ∀ (L : List OneM), (L.Pairwise fun y x => ltO y x = true) → (∀ y ∈ L, ¬ (y.cl = x.cl ∧ y.no = x.no)) → (putL x L).Pairwise fun y x => ltO y x = true
  | [], _, _ => by simp [putL]
  | y :: r, h, hne => by
    obtain ⟨h1, h2⟩ := List.pairwise_cons.1 h
    rw [putL]
    split
    · rename_i hlt
      refine List.pairwise_cons.2 ⟨fun z hz => ?_, putL_sorted x r h2 fun z hz => hne z (by simp [hz])⟩
      rcases putL_mem hz with rfl | hz
      · exact hlt
      · exact h1 z hz
    · rename_i hlt
      have hxy := ltO_total hlt (hne y (by simp))
      refine List.pairwise_cons.2 ⟨fun z hz => ?_, h⟩
      rcases List.mem_cons.1 hz with rfl | hz
      · exact hxy
      · exact ltO_trans hxy (h1 z hz)
theorem insK_head {α : Type} (n : Int) (x : α) (l : List (Int × α)) (h : ∀ p ∈ l, n < p.1) : insK n x l = (n, x) :: l := by
  cases l with
  | nil => rfl
  | cons p r =>
    obtain ⟨a, u⟩ := p
    rw [insK, if_pos (h (a, u) (by simp))]
theorem putL_of (x : OneM) : ∀ (L : List OneM), (L.Pairwise fun y x => ltO y x = true) → (∀ y ∈ L, ¬ (y.cl = x.cl ∧ y.no = x.no)) → ∀ id, ofCl (putL x L) id = if id = x.cl then insK x.no (x.R, x.vs) (ofCl L id) else ofCl L id
  | [], _, _, id => by
    rw [putL, ofCl_cons]
    by_cases h : x.cl = id
    · rw [if_pos h, if_pos h.symm]; rfl
    · rw [if_neg h, if_neg (fun e => h e.symm)]
  | y :: r, h, hne, id => by
    obtain ⟨h1, h2⟩ := List.pairwise_cons.1 h
    rw [putL]
    split
    · rename_i hlt
      rw [ofCl_cons, ofCl_cons, putL_of x r h2 (fun z hz => hne z (by simp [hz])) id]
      by_cases hy : y.cl = id
      · rw [if_pos hy, if_pos hy]
        by_cases hi : id = x.cl
        · rw [if_pos hi, if_pos hi]
          have hno : y.no < x.no := by
            simp only [ltO, Bool.or_eq_true, Bool.and_eq_true, decide_eq_true_eq] at hlt
            omega
          show _ = insK x.no (x.R, x.vs) ((y.no, (y.R, y.vs)) :: ofCl r id)
          rw [insK, if_neg (by omega)]; rfl
        · rw [if_neg hi, if_neg hi]
      · rw [if_neg hy, if_neg hy]
    · rename_i hlt
      rw [ofCl_cons]
      by_cases hi : id = x.cl
      · rw [if_pos hi.symm, if_pos hi]
        refine (insK_head _ _ _ fun p hp => ?_).symm
        unfold ofCl at hp
        obtain ⟨z, hz, rfl⟩ := List.mem_map.1 hp
        obtain ⟨hz1, hz2⟩ := List.mem_filter.1 hz
        have hz2 : z.cl = id := by simpa using hz2
        have hxy := ltO_total hlt (hne y (by simp))
        have hxz : ltO x z = true := by
          rcases List.mem_cons.1 hz1 with rfl | hz1
          · exact hxy
          · exact ltO_trans hxy (h1 z hz1)
        simp only [ltO, Bool.or_eq_true, Bool.and_eq_true, decide_eq_true_eq] at hxz
        show x.no < z.no
        omega
      · rw [if_neg (fun e => hi e.symm), if_neg hi]
theorem raiseL_of (L : List OneM) (id fl j : Int) : ofCl (raiseL L id fl) j = if j = id then (ofCl L j).filter fun p => decide (fl < p.1) else ofCl L j := by
  induction L with
  | nil => unfold ofCl raiseL; simp
  | cons y r ih =>
    have e : raiseL (y :: r) id fl = if (decide (y.cl ≠ id) || decide (fl < y.no)) = true then y :: raiseL r id fl else raiseL r id fl := by
      unfold raiseL; rw [List.filter_cons]
    rw [e, ofCl_cons]
    by_cases hj : j = id
    · rw [if_pos hj] at ih ⊢
      by_cases hy : y.cl = j
      · rw [if_pos hy, List.filter_cons]
        have hyi : y.cl = id := hy.trans hj
        by_cases hf : fl < y.no
        · rw [if_pos (by simp [hf]), ofCl_cons, if_pos hy, ih, if_pos (show decide (fl < (pairOf y).1) = true from decide_eq_true hf)]
        · rw [if_neg (by simp [hf, hyi]), ih, if_neg (show ¬ decide (fl < (pairOf y).1) = true from fun hd => hf (of_decide_eq_true hd))]
      · rw [if_neg hy]
        have hyi : y.cl ≠ id := fun e => hy (by omega)
        rw [if_pos (by simp [hyi]), ofCl_cons, if_neg hy, ih]
    · rw [if_neg hj] at ih ⊢
      split
      · rw [ofCl_cons, ih]
      · rename_i hn
        have hyi : y.cl = id := by
          simp only [Bool.or_eq_true, decide_eq_true_eq, not_or] at hn
          exact Classical.not_not.1 hn.1
        rw [ih, if_neg (by omega)]
theorem raiseL_sorted {L : List OneM} (h : L.Pairwise fun y x => ltO y x = true) (id fl : Int) : (raiseL L id fl).Pairwise fun y x => ltO y x = true := h.filter _
/-- A new answer is put. -/
theorem Refines.put {L : List OneM} {F : List (Int × Int)} {V : Int → VC} (h : Refines L F V) (x : OneM) (hg : GoodV (V x.cl)) (hn : (V x.cl).1 < x.no) (hne : ∀ p ∈ (V x.cl).2, p.1 ≠ x.no) :
    Refines (putR L F x).1 (putR L F x).2 (setV V x.cl (putV (V x.cl) x.no (x.R, x.vs))) := by
  have hneL : ∀ y ∈ L, ¬ (y.cl = x.cl ∧ y.no = x.no) := fun y hy e => by
    have : pairOf y ∈ (V x.cl).2 := by
      rw [← h.l x.cl]
      exact List.mem_map.2 ⟨y, List.mem_filter.2 ⟨hy, by simpa using e.1⟩, rfl⟩
    exact hne _ this e.2
  have hso := putL_sorted x L h.sorted hneL
  have hof := putL_of x L h.sorted hneL
  have hrise := insK_rising x.no (x.R, x.vs) (V x.cl).2 hg.rise hne
  have hlen := insK_len x.no (x.R, x.vs) (V x.cl).2
  have hk : knownL (putL x L) x.cl = (insK x.no (x.R, x.vs) (V x.cl).2).map (·.1) := by rw [knownL_eq, hof, if_pos rfl, h.l]
  have h4 := hg.len
  have hab : ∀ p ∈ insK x.no (x.R, x.vs) (V x.cl).2, (V x.cl).1 < p.1 := fun p hp => by
    rcases List.mem_cons.1 ((insK_perm _ _ _).mem_iff.1 hp) with rfl | hp
    · exact hn
    · exact hg.above p hp
  unfold putR
  rw [hk, List.length_map]
  cases hI : insK x.no (x.R, x.vs) (V x.cl).2 with
  | nil => rw [hI] at hlen; simp at hlen
  | cons p r =>
    rw [hI] at hlen hrise hab
    obtain ⟨g1, g2⟩ := List.pairwise_cons.1 hrise
    by_cases hbig : 4 < (p :: r).length
    · rw [if_pos hbig]
      have h5 : (p :: r).length - 5 = 0 := by omega
      have hget : ((p :: r).map (·.1)).getD ((p :: r).length - 5) 0 = p.1 := by rw [h5]; rfl
      rw [hget]
      have hmax : floorOf (raiseF F x.cl p.1) x.cl = p.1 := by
        rw [raiseF_floor h.rise, if_pos rfl, h.fl]
        have := hab p (by simp)
        omega
      have hput : putV (V x.cl) x.no (x.R, x.vs) = (p.1, r) := by unfold putV cutV; rw [hI]; simp only; rw [if_pos hbig]
      rw [hput, hmax]
      refine ⟨raiseL_sorted hso _ _, raiseF_rising h.rise _ _, fun j => ?_, fun j => ?_⟩
      · by_cases hj : j = x.cl
        · subst hj; rw [setV_same, hmax]
        · rw [setV_other _ _ hj, raiseF_floor h.rise, if_neg hj, h.fl]
      · rw [raiseL_of, hof]
        by_cases hj : j = x.cl
        · subst hj
          rw [if_pos rfl, if_pos rfl, setV_same, h.l, hI, List.filter_cons, if_neg (by simp)]
          refine List.filter_eq_self.2 fun q hq => ?_
          have := g1 q hq
          simpa using this
        · rw [if_neg hj, if_neg hj, setV_other _ _ hj, h.l]
    · rw [if_neg hbig]
      have hput : putV (V x.cl) x.no (x.R, x.vs) = ((V x.cl).1, p :: r) := by unfold putV cutV; rw [hI]; simp only; rw [if_neg hbig]
      rw [hput]
      refine ⟨hso, h.rise, fun j => ?_, fun j => ?_⟩
      · by_cases hj : j = x.cl
        · subst hj; rw [setV_same, h.fl]
        · rw [setV_other _ _ hj, h.fl]
      · rw [hof]
        by_cases hj : j = x.cl
        · subst hj; rw [if_pos rfl, setV_same, h.l, hI]
        · rw [if_neg hj, setV_other _ _ hj, h.l]
theorem Refines.look {L : List OneM} {F : List (Int × Int)} {V : Int → VC} (h : Refines L F V) (hg : ∀ id, GoodV (V id)) {id n : Int} {o : Int × Option OneM} (ho : LookR L F id n o) : o.1 = (lookQ V id n).1 ∧ o.2.map (fun x => (x.R, x.vs)) = (lookQ V id n).2 := by
  rcases ho with ⟨hb, rfl⟩ | ⟨hb, hf, rfl⟩ | ⟨hb, hf, ho⟩
  · rw [lookQ, if_pos hb]; exact ⟨rfl, rfl⟩
  · rw [lookQ, if_neg (by rw [hb]; exact Bool.false_ne_true), lookV, if_pos (by rw [← h.fl]; exact hf)]; exact ⟨rfl, rfl⟩
  · rw [lookQ, if_neg (by rw [hb]; exact Bool.false_ne_true), lookV, if_neg (by rw [← h.fl]; exact hf)]
    rcases ho with ⟨x, hx, hc, hn, rfl⟩ | ⟨hno, rfl⟩
    · have hm : (n, (x.R, x.vs)) ∈ (V id).2 := by
        rw [← h.l id]
        exact List.mem_map.2 ⟨x, List.mem_filter.2 ⟨hx, by simpa using hc⟩, by rw [pairOf, hn]⟩
      rw [getK_of_mem (hg id).rise.nodup hm]
      exact ⟨rfl, rfl⟩
    · rw [getK_none_of n (V id).2 fun p hp e => ?_]
      · exact ⟨rfl, rfl⟩
      · rw [← h.l id] at hp
        obtain ⟨x, hx, rfl⟩ := List.mem_map.1 hp
        obtain ⟨h1, h2⟩ := List.mem_filter.1 hx
        exact hno x h1 ⟨by simpa using h2, e⟩
theorem putR_len (L : List OneM) (F : List (Int × Int)) (x : OneM) : (putR L F x).1.length ≤ L.length + 1 ∧ (putR L F x).2.length ≤ F.length + 1 := by
  unfold putR
  split
  · refine ⟨?_, raiseF_len _ _ _⟩
    show (raiseL _ _ _).length ≤ _
    unfold raiseL
    exact Nat.le_trans (List.length_filter_le _ _) (by rw [putL_len]; omega)
  · exact ⟨by rw [putL_len]; omega, by simp⟩
end Go.Proofs.Ytmnaggdhkggjhaa.E
/- The reference's table, told by views; OncePlays. -/
namespace Go.Proofs.Ytmnaggdhkggjhaa.E
open Go Go.RowKit
set_option linter.unusedSimpArgs false
set_option linter.unusedVariables false

structure RefV (hu : Nat) (c : Nat → Nat) (w : World) (g : Nat) (V : Int → VC) (N : Nat) : Prop where
  good : ∀ id, GoodV (V id)
  out : ∃ vL vF L F, RefAt hu c w g vL vF L F ∧ Refines L F V ∧ L.length ≤ N ∧ F.length ≤ N
section
variable {hu : Nat} {c c' : Nat → Nat} {w w' : World} {g : Nat} {V : Int → VC} {N : Nat}
theorem RefV.turns {G : Nat → Prop} (h : RefV hu c w g V N) (hT : Turns G w w') (hG : ∀ k, G k → c k % 1000 ≠ hu ∧ c k ≠ 999) : RefV hu c w' g V N := by
  obtain ⟨vL, vF, L, F, h1, h2⟩ := h.out
  exact ⟨h.good, vL, vF, L, F, h1.turns hT hG, h2⟩
theorem RefV.below (h : RefV hu c w g V N) (hb : Below w.heap.size w w') : RefV hu c w' g V N := by
  obtain ⟨vL, vF, L, F, h1, h2⟩ := h.out
  exact ⟨h.good, vL, vF, L, F, h1.below hb, h2⟩
theorem RefV.re (h : RefV hu c w g V N) (hc : ∀ k, k < w.heap.size → c' k = c k) : RefV hu c' w g V N := by
  obtain ⟨vL, vF, L, F, h1, h2⟩ := h.out
  exact ⟨h.good, vL, vF, L, F, h1.re hc, h2⟩
theorem RefV.mono (h : RefV hu c w g V N) {M : Nat} (hm : N ≤ M) : RefV hu c w g V M := by
  obtain ⟨vL, vF, L, F, h1, h2, h3, h4⟩ := h.out
  exact ⟨h.good, vL, vF, L, F, h1, h2, by omega, by omega⟩
theorem RefV.hh (h : RefV hu c w g V N) : 0 < hu ∧ hu < 999 := by
  obtain ⟨vL, vF, L, F, h1, h2⟩ := h.out
  exact h1.hh
/-- It stands where only blocks of another colour turn. -/
theorem RefV.on {hu2 : Nat} (h : RefV hu c w g V N) (hT : Turns (Dh hu2 c) w w') (hne : hu2 ≠ hu) (h9 : hu2 < 999) (hc : ∀ k, k < w.heap.size → c' k = c k) : RefV hu c' w' g V N := by
  refine (h.re hc).turns hT.cut fun k hk => ?_
  have e : c k % 1000 = hu2 := hk.1
  rw [hc k hk.2]
  exact ⟨by omega, by omega⟩
end
theorem refLook_V {hu : Nat} {c : Nat → Nat} {w : World} {g : Nat} {V : Int → VC} {N : Nat} (id n : Int) (h : RefV hu c w g V N) (hN : N ≤ 70000) :
    CallP Try.prog 15 #[.pointer (some ⟨g, 0, none⟩), .int .i64 id, .int .i64 n] (fun r w' => ∃ p q, r = .tuple #[.agg ((toldQR (lookQ V id n).2).cells p q), .int .i64 (lookQ V id n).1] ∧ Vals w' [p] (toldQV (lookQ V id n).2) ∧ RowsR w' [q] [] ∧ p.oneCell' = true ∧ q.oneCell' = true ∧ Below w.heap.size w w') w := by
  obtain ⟨vL, vF, L, F, h1, h2, h3, h4⟩ := h.out
  refine (refLook_spec id n h1 (by omega) (by omega)).mono ?_
  rintro _ w' ⟨o, ho, rfl, hb⟩
  obtain ⟨e1, e2⟩ := h2.look h.good ho
  have hmem : ∀ x, o.2 = some x → x ∈ L := by
    rcases ho with ⟨_, rfl⟩ | ⟨_, _, rfl⟩ | ⟨_, _, ⟨x, hx, _, _, rfl⟩ | ⟨_, rfl⟩⟩
    · intro y hy; cases hy
    · intro y hy; cases hy
    · intro y hy; cases hy; exact hx
    · intro y hy; cases hy
  rw [← e1, ← e2]
  cases h0 : o.2 with
  | none => exact ⟨.slice none 0 0, .slice none 0 0, rfl, Vals.nil _, RowsR.nil _ 0 (by decide), rfl, rfl, hb⟩
  | some x =>
    have hE := h1.el x (hmem x h0)
    have hE' : ElAt c w' x := hE.turns (G := fun _ => False) (Turns.of_below hb) (fun _ h => h.elim)
    exact ⟨x.p, x.q, rfl, hE'.vals, hE.noRows, hE.one, hE.oneq, hb⟩
theorem refFloor_V {hu : Nat} {c : Nat → Nat} {w : World} {g : Nat} {V : Int → VC} {N : Nat} (id : Int) (h : RefV hu c w g V N) (hN : N ≤ 70000) :
    CallP Try.prog 32 #[.pointer (some ⟨g, 0, none⟩), .int .i64 id] (fun r w' => r = .int .i64 (V id).1 ∧ w = w') w := by
  obtain ⟨vL, vF, L, F, h1, h2, h3, h4⟩ := h.out
  refine (refFloor_spec id h1 (by omega)).mono ?_
  rintro _ w' ⟨rfl, rfl⟩
  rw [h2.fl]; exact ⟨rfl, rfl⟩
theorem refKnown_V {hu : Nat} {c : Nat → Nat} {w : World} {g : Nat} {V : Int → VC} {N : Nat} (id : Int) (h : RefV hu c w g V N) (hN : N ≤ 70000) :
    CallP Try.prog 35 #[.pointer (some ⟨g, 0, none⟩), .int .i64 id] (fun r w' => Own 3 w' r (((V id).2.map (·.1)).map (Value.int .i64)) ∧ Fresh w.heap.size r ∧ Below w.heap.size w w') w := by
  obtain ⟨vL, vF, L, F, h1, h2, h3, h4⟩ := h.out
  refine (refKnown_spec id h1 (by omega)).mono ?_
  rintro r w' ⟨h5, h6, h7⟩
  rw [knownL_eq, h2.l] at h5
  exact ⟨h5, h6, h7⟩
theorem refKeep_V {hu : Nat} {c : Nat → Nat} {w : World} {g : Nat} {V : Int → VC} {N : Nat} (id n : Int) (R : Rep) (p q : Value) (vs : List ValT) (rows : List RowT) (h : RefV hu c w g V N)
    (hp : Vals w [p] vs) (hq : RowsR w [q] rows) (hvl : vs.length ≤ 1000) (hN : N ≤ 60000) :
    CallP Try.prog 16 #[.pointer (some ⟨g, 0, none⟩), .int .i64 id, .int .i64 n, .agg (R.cells p q)]
      (fun r w' => r = .int .i64 (keepQ V id n R vs rows.length).1 ∧ ∃ c', (∀ k, k < w.heap.size → c' k = c k) ∧ RefV hu c' w' g (keepQ V id n R vs rows.length).2 (N + 1) ∧ Turns (Dh hu c) w w') w := by
  obtain ⟨vL, vF, L, F, h1, h2, h3, h4⟩ := h.out
  have hgood := keepQ_good h.good id n R vs rows.length (vals_ok hp)
  have hhu := h1.hh
  refine (refKeep_spec id n R p q vs rows h1 hp hq hvl (by omega) (by omega)).mono ?_
  intro r w' hk
  have stay : ∀ {e : Int}, r = .int .i64 e → Below w.heap.size w w' → keepQ V id n R vs rows.length = (e, V) → r = .int .i64 (keepQ V id n R vs rows.length).1 ∧ ∃ c', (∀ k, k < w.heap.size → c' k = c k) ∧ RefV hu c' w' g (keepQ V id n R vs rows.length).2 (N + 1) ∧ Turns (Dh hu c) w w' := by
    intro e he hb hke
    rw [hke]
    exact ⟨he, c, fun _ _ => rfl, (h.below hb).mono (by omega), Turns.of_below hb⟩
  rcases hk with ⟨harg, hr, hb⟩ | ⟨harg, o, ho, hk⟩
  · exact stay hr hb (by rw [keepQ, if_pos harg])
  · obtain ⟨e1, _⟩ := h2.look h.good ho
    have hargF : ¬ argP id n R vs rows.length = true := by rw [harg]; exact Bool.false_ne_true
    rcases hk with ⟨e, hr, hb⟩ | ⟨e, hr, hb⟩ | ⟨e, hr, c', vL', vF', p', hc', hR', hT'⟩
    · rw [e1] at e
      exact stay hr hb (by rw [keepQ, if_neg hargF, if_neg (by rw [e]; decide), if_pos e])
    · rw [e1] at e
      exact stay hr hb (by rw [keepQ, if_neg hargF, if_pos e])
    · rw [e1] at e
      have h12 : (lookQ V id n).1 ≠ 12 := by rw [e]; decide
      have h0 : (lookQ V id n).1 ≠ 0 := by rw [e]; decide
      have hke : keepQ V id n R vs rows.length = (0, setV V id (putV (V id) n (R, vs))) := by rw [keepQ, if_neg hargF, if_neg h12, if_neg h0]
      rw [hke] at hgood ⊢
      obtain ⟨_, _, hn3, hn4⟩ := lookQ_new (lookQ_bad (argP_bad harg)) h12 h0
      have hlen := putR_len L F ⟨id, n, R, p', q, vs⟩
      refine ⟨hr, c', hc', ⟨hgood, vL', vF', _, _, hR', h2.put ⟨id, n, R, p', q, vs⟩ (h.good id) hn3 hn4, by omega, by omega⟩, hT'.mono fun k _ e => ?_⟩
      rw [e, Dh, h1.hue]; omega
theorem newRef_V {hu : Nat} (hh : 0 < hu ∧ hu < 999) (c : Nat → Nat) (w : World) : RefV hu (col c w.heap.size hu) (w.alloc (.cells (Value.agg #[.slice none 0 0, .slice none 0 0]).cells 45)) w.heap.size V0 0 := by
  refine ⟨fun _ => goodV0, .slice none 0 0, .slice none 0 0, [], [], ⟨hh, col_ge _ _ _ (Nat.le_refl _), Blk.new w 45 _, ⟨by simp, .inl ⟨rfl, rfl⟩⟩, ⟨by simp, .inl ⟨rfl, rfl⟩⟩, InC.nil _ _ _ _, InC.nil _ _ _ _, fun x hx => by simp at hx⟩, refines0, by simp, by simp⟩
/-- Does a table say what the reference's says? -/
theorem same_spec {h1 h2 : Nat} {c : Nat → Nat} {w : World} {ga gm : Nat} {V : Int → VC} {N M : Nat} (v : Value) (l : List ActT) (hA : TabV h1 c w ga V N) (hM : RefV h2 c w gm V M) (hN : M ≤ 60000) (hv : Acts w [v] l) (hl : l.length ≤ 1000) :
    CallP Try.prog 17 #[.pointer (some ⟨ga, 0, none⟩), .pointer (some ⟨gm, 0, none⟩), v] (fun r w' => r = .bool true ∧ Below w.heap.size w w') w := by
  obtain ⟨A, cA, rfl, _, hmA⟩ := hv.slice
  refine ⟨S17.calls _ _ _ _ _ ?_⟩
  unfold S17
  refine ofPR (pr_pnil und30) ?_
  simp only [Option.isNone_some]
  (repeat with_reducible first | refine nck ?_ | refine cdT ?_ | refine cdF ?_ | refine gdY ?_ | refine gdFT ?_ | refine gdTF ?_ | refine gdU ?_ | refine gaY ?_ | refine gaFT ?_ | refine gaTF ?_ | refine pickT ?_ | refine pickF ?_ | refine bi_lss_t (by omega) ?_ | refine bi_lss_f (by omega) ?_ | refine bi_add64 (by omega) ?_ | refine bi_sub64 (by omega) ?_ | refine bi_eql_t (by omega) ?_ | refine bi_eql_f (by omega) ?_ | refine bi_neq_t (by omega) ?_ | refine bi_neq_f (by omega) ?_ | refine bi_gtr_t (by omega) ?_ | refine bi_gtr_f (by omega) ?_ | refine bi_leq_t (by omega) ?_ | refine bi_leq_f (by omega) ?_ | refine bi_geq_t (by omega) ?_ | refine bi_geq_f (by omega) ?_ | refine bi_xt0 ?_ | refine bi_xt1 ?_ | refine bi_xt2 ?_ | refine bi_xt3 ?_ | refine bi_T ?_ | refine bi_F ?_ | refine bi_not ?_ | refine bi_and ?_ | refine bi_or ?_ | refine bi_xor ?_ | refine bi_shr (by omega) (by decide) ?_ | refine bi_shl (by omega) (by decide) ?_ | refine bi_quo64 (by omega) ?_ | refine bi_rem64 (by omega) ?_ | refine bi_mul64 (by omega) ?_ | refine bi_neg ?_ | refine bi_un_xor32 ?_ | refine bi_add ?_ | refine bi_sub ?_ | refine bi_mul ?_ | refine bi_quo (by decide) ?_ | refine bi_rem (by decide) ?_)
  refine LoopP.inv1 (fun iv w' => ∃ k : Nat, k ≤ l.length ∧ iv = .int .i64 k ∧ Below w.heap.size w w') (fun iv _ => l.length - (intOf iv).toNat) ⟨0, by omega, rfl, Below.refl _ _⟩ ?_
  rintro _ w1 ⟨k, hk, rfl, hb1⟩ J hJ
  dsimp only [List.headD_cons, List.tail_cons]
  refine ln und39 ?_
  refine bi_lss_c (fun h => ?_) (fun h => ?_)
  · have hk' : k < l.length := by omega
    obtain ⟨a, p, q, rfl, _, hc1, hc2, hcell, hp, hq⟩ := act_at hv k hk'
    have r1 : ∀ w', Below w.heap.size w w' → w'.cell? ((a.add (k * 8)).add 1) = some (.int .i64 l[k].cl) := fun w' h => by rw [h.cell (World.block_lt_of_cell? _ _ hc1), hc1]
    have r2 : ∀ w', Below w.heap.size w w' → w'.cell? ((a.add (k * 8)).add 2) = some (.int .i64 l[k].no) := fun w' h => by rw [h.cell (World.block_lt_of_cell? _ _ hc2), hc2]
    have hdr : Below w1.heap.size w1 w1.drew := (Below.refl _ _).drew
    have hb1d := below_then hb1 hdr
    (repeat with_reducible first | refine nck ?_ | refine cdT ?_ | refine cdF ?_ | refine gdY ?_ | refine gdFT ?_ | refine gdTF ?_ | refine gdU ?_ | refine gaY ?_ | refine gaFT ?_ | refine gaTF ?_ | refine pickT ?_ | refine pickF ?_ | refine bi_lss_t (by omega) ?_ | refine bi_lss_f (by omega) ?_ | refine bi_add64 (by omega) ?_ | refine bi_sub64 (by omega) ?_ | refine bi_eql_t (by omega) ?_ | refine bi_eql_f (by omega) ?_ | refine bi_neq_t (by omega) ?_ | refine bi_neq_f (by omega) ?_ | refine bi_gtr_t (by omega) ?_ | refine bi_gtr_f (by omega) ?_ | refine bi_leq_t (by omega) ?_ | refine bi_leq_f (by omega) ?_ | refine bi_geq_t (by omega) ?_ | refine bi_geq_f (by omega) ?_ | refine bi_xt0 ?_ | refine bi_xt1 ?_ | refine bi_xt2 ?_ | refine bi_xt3 ?_ | refine bi_T ?_ | refine bi_F ?_ | refine bi_not ?_ | refine bi_and ?_ | refine bi_or ?_ | refine bi_xor ?_ | refine bi_shr (by omega) (by decide) ?_ | refine bi_shl (by omega) (by decide) ?_ | refine bi_quo64 (by omega) ?_ | refine bi_rem64 (by omega) ?_ | refine bi_mul64 (by omega) ?_ | refine bi_neg ?_ | refine bi_un_xor32 ?_ | refine bi_add ?_ | refine bi_sub ?_ | refine bi_mul ?_ | refine bi_quo (by decide) ?_ | refine bi_rem (by decide) ?_)
    refine draw (Below w.heap.size w) hb1d ?_
    (repeat with_reducible first | refine yixA und39 sz47 k hk' ?_ | refine yfdA q1 (by decide) ?_ | refine yfdA q2 (by decide) ?_ | refine yl1 one3 r1 ?_ | refine yl1 one3 r2 ?_ | refine ynck ?_ | refine nck ?_ | refine cdT ?_ | refine cdF ?_ | refine gdY ?_ | refine gdFT ?_ | refine gdTF ?_ | refine gdU ?_ | refine gaY ?_ | refine gaFT ?_ | refine gaTF ?_ | refine pickT ?_ | refine pickF ?_ | refine yi_lss_t (by omega) ?_ | refine yi_lss_f (by omega) ?_ | refine yi_add64 (by omega) ?_ | refine yi_sub64 (by omega) ?_ | refine yi_eql_t (by omega) ?_ | refine yi_eql_f (by omega) ?_ | refine yi_neq_t (by omega) ?_ | refine yi_neq_f (by omega) ?_ | refine yi_gtr_t (by omega) ?_ | refine yi_gtr_f (by omega) ?_ | refine yi_leq_t (by omega) ?_ | refine yi_leq_f (by omega) ?_ | refine yi_geq_t (by omega) ?_ | refine yi_geq_f (by omega) ?_ | refine yi_xt0 ?_ | refine yi_xt1 ?_ | refine yi_xt2 ?_ | refine yi_xt3 ?_ | refine yi_T ?_ | refine yi_F ?_ | refine yi_not ?_ | refine yi_and ?_ | refine yi_or ?_ | refine yi_xor ?_ | refine yi_shr (by omega) (by decide) ?_ | refine yi_shl (by omega) (by decide) ?_ | refine yi_quo64 (by omega) ?_ | refine yi_rem64 (by omega) ?_ | refine yi_mul64 (by omega) ?_ | refine yi_neg ?_ | refine yi_un_xor32 ?_ | refine yi_add ?_ | refine yi_sub ?_ | refine yi_mul ?_ | refine yi_quo (by decide) ?_ | refine yi_rem (by decide) ?_)
    have hA1 := hA.below hb1d
    have hM1 := hM.below hb1d
    have hok := lookQ_ok hA.good l[k].cl l[k].no
    refine (Look_V l[k].cl l[k].no hA1).mono ?_
    rintro _ w2 ⟨p2, rfl, ho2, hf2, hb2⟩
    have h1p : p2.oneCell' = true := by obtain ⟨A, e⟩ := ho2.slice; rw [e]; rfl
    (repeat with_reducible first | refine nck ?_ | refine cdT ?_ | refine cdF ?_ | refine gdY ?_ | refine gdFT ?_ | refine gdTF ?_ | refine gdU ?_ | refine gaY ?_ | refine gaFT ?_ | refine gaTF ?_ | refine pickT ?_ | refine pickF ?_ | refine bi_lss_t (by omega) ?_ | refine bi_lss_f (by omega) ?_ | refine bi_add64 (by omega) ?_ | refine bi_sub64 (by omega) ?_ | refine bi_eql_t (by omega) ?_ | refine bi_eql_f (by omega) ?_ | refine bi_neq_t (by omega) ?_ | refine bi_neq_f (by omega) ?_ | refine bi_gtr_t (by omega) ?_ | refine bi_gtr_f (by omega) ?_ | refine bi_leq_t (by omega) ?_ | refine bi_leq_f (by omega) ?_ | refine bi_geq_t (by omega) ?_ | refine bi_geq_f (by omega) ?_ | refine bi_xt0 ?_ | refine bi_xt1 ?_ | refine bi_xt2 ?_ | refine bi_xt3 ?_ | refine bi_T ?_ | refine bi_F ?_ | refine bi_not ?_ | refine bi_and ?_ | refine bi_or ?_ | refine bi_xor ?_ | refine bi_shr (by omega) (by decide) ?_ | refine bi_shl (by omega) (by decide) ?_ | refine bi_quo64 (by omega) ?_ | refine bi_rem64 (by omega) ?_ | refine bi_mul64 (by omega) ?_ | refine bi_neg ?_ | refine bi_un_xor32 ?_ | refine bi_add ?_ | refine bi_sub ?_ | refine bi_mul ?_ | refine bi_quo (by decide) ?_ | refine bi_rem (by decide) ?_)
    refine newRep h1p rfl ?_
    intro w3 hB3 hb3
    have ho3 := ho2.below hb3
    have hb13 := below_then hb2 hb3
    refine (refLook_V l[k].cl l[k].no (hM1.below hb13) (by omega)).mono ?_
    rintro _ w4 ⟨p4, q4, rfl, hv4, hq4, h1p4, h1q4, hb4⟩
    (repeat with_reducible first | refine nck ?_ | refine cdT ?_ | refine cdF ?_ | refine gdY ?_ | refine gdFT ?_ | refine gdTF ?_ | refine gdU ?_ | refine gaY ?_ | refine gaFT ?_ | refine gaTF ?_ | refine pickT ?_ | refine pickF ?_ | refine bi_lss_t (by omega) ?_ | refine bi_lss_f (by omega) ?_ | refine bi_add64 (by omega) ?_ | refine bi_sub64 (by omega) ?_ | refine bi_eql_t (by omega) ?_ | refine bi_eql_f (by omega) ?_ | refine bi_neq_t (by omega) ?_ | refine bi_neq_f (by omega) ?_ | refine bi_gtr_t (by omega) ?_ | refine bi_gtr_f (by omega) ?_ | refine bi_leq_t (by omega) ?_ | refine bi_leq_f (by omega) ?_ | refine bi_geq_t (by omega) ?_ | refine bi_geq_f (by omega) ?_ | refine bi_xt0 ?_ | refine bi_xt1 ?_ | refine bi_xt2 ?_ | refine bi_xt3 ?_ | refine bi_T ?_ | refine bi_F ?_ | refine bi_not ?_ | refine bi_and ?_ | refine bi_or ?_ | refine bi_xor ?_ | refine bi_shr (by omega) (by decide) ?_ | refine bi_shl (by omega) (by decide) ?_ | refine bi_quo64 (by omega) ?_ | refine bi_rem64 (by omega) ?_ | refine bi_mul64 (by omega) ?_ | refine bi_neg ?_ | refine bi_un_xor32 ?_ | refine bi_add ?_ | refine bi_sub ?_ | refine bi_mul ?_ | refine bi_quo (by decide) ?_ | refine bi_rem (by decide) ?_)
    refine newRep h1p4 h1q4 ?_
    intro w5 hB5 hb5
    have hb35 := below_then hb4 hb5
    have hB3' := hB3.below' hb35
    have ho5 := ho3.below hb35
    have hb15 := below_then hb13 hb35
    refine bi_neq ?_
    rw [decide_eq_false (by simp)]
    (repeat with_reducible first | refine nck ?_ | refine cdT ?_ | refine cdF ?_ | refine gdY ?_ | refine gdFT ?_ | refine gdTF ?_ | refine gdU ?_ | refine gaY ?_ | refine gaFT ?_ | refine gaTF ?_ | refine pickT ?_ | refine pickF ?_ | refine bi_lss_t (by omega) ?_ | refine bi_lss_f (by omega) ?_ | refine bi_add64 (by omega) ?_ | refine bi_sub64 (by omega) ?_ | refine bi_eql_t (by omega) ?_ | refine bi_eql_f (by omega) ?_ | refine bi_neq_t (by omega) ?_ | refine bi_neq_f (by omega) ?_ | refine bi_gtr_t (by omega) ?_ | refine bi_gtr_f (by omega) ?_ | refine bi_leq_t (by omega) ?_ | refine bi_leq_f (by omega) ?_ | refine bi_geq_t (by omega) ?_ | refine bi_geq_f (by omega) ?_ | refine bi_xt0 ?_ | refine bi_xt1 ?_ | refine bi_xt2 ?_ | refine bi_xt3 ?_ | refine bi_T ?_ | refine bi_F ?_ | refine bi_not ?_ | refine bi_and ?_ | refine bi_or ?_ | refine bi_xor ?_ | refine bi_shr (by omega) (by decide) ?_ | refine bi_shl (by omega) (by decide) ?_ | refine bi_quo64 (by omega) ?_ | refine bi_rem64 (by omega) ?_ | refine bi_mul64 (by omega) ?_ | refine bi_neg ?_ | refine bi_un_xor32 ?_ | refine bi_add ?_ | refine bi_sub ?_ | refine bi_mul ?_ | refine bi_quo (by decide) ?_ | refine bi_rem (by decide) ?_)
    refine ldA agg27 hB3' (by exact sz27) ?_
    (repeat with_reducible first | refine nck ?_ | refine cdT ?_ | refine cdF ?_ | refine gdY ?_ | refine gdFT ?_ | refine gdTF ?_ | refine gdU ?_ | refine gaY ?_ | refine gaFT ?_ | refine gaTF ?_ | refine pickT ?_ | refine pickF ?_ | refine bi_lss_t (by omega) ?_ | refine bi_lss_f (by omega) ?_ | refine bi_add64 (by omega) ?_ | refine bi_sub64 (by omega) ?_ | refine bi_eql_t (by omega) ?_ | refine bi_eql_f (by omega) ?_ | refine bi_neq_t (by omega) ?_ | refine bi_neq_f (by omega) ?_ | refine bi_gtr_t (by omega) ?_ | refine bi_gtr_f (by omega) ?_ | refine bi_leq_t (by omega) ?_ | refine bi_leq_f (by omega) ?_ | refine bi_geq_t (by omega) ?_ | refine bi_geq_f (by omega) ?_ | refine bi_xt0 ?_ | refine bi_xt1 ?_ | refine bi_xt2 ?_ | refine bi_xt3 ?_ | refine bi_T ?_ | refine bi_F ?_ | refine bi_not ?_ | refine bi_and ?_ | refine bi_or ?_ | refine bi_xor ?_ | refine bi_shr (by omega) (by decide) ?_ | refine bi_shl (by omega) (by decide) ?_ | refine bi_quo64 (by omega) ?_ | refine bi_rem64 (by omega) ?_ | refine bi_mul64 (by omega) ?_ | refine bi_neg ?_ | refine bi_un_xor32 ?_ | refine bi_add ?_ | refine bi_sub ?_ | refine bi_mul ?_ | refine bi_quo (by decide) ?_ | refine bi_rem (by decide) ?_)
    refine ldA agg27 hB5 (by exact sz27) ?_
    (repeat with_reducible first | refine nck ?_ | refine cdT ?_ | refine cdF ?_ | refine gdY ?_ | refine gdFT ?_ | refine gdTF ?_ | refine gdU ?_ | refine gaY ?_ | refine gaFT ?_ | refine gaTF ?_ | refine pickT ?_ | refine pickF ?_ | refine bi_lss_t (by omega) ?_ | refine bi_lss_f (by omega) ?_ | refine bi_add64 (by omega) ?_ | refine bi_sub64 (by omega) ?_ | refine bi_eql_t (by omega) ?_ | refine bi_eql_f (by omega) ?_ | refine bi_neq_t (by omega) ?_ | refine bi_neq_f (by omega) ?_ | refine bi_gtr_t (by omega) ?_ | refine bi_gtr_f (by omega) ?_ | refine bi_leq_t (by omega) ?_ | refine bi_leq_f (by omega) ?_ | refine bi_geq_t (by omega) ?_ | refine bi_geq_f (by omega) ?_ | refine bi_xt0 ?_ | refine bi_xt1 ?_ | refine bi_xt2 ?_ | refine bi_xt3 ?_ | refine bi_T ?_ | refine bi_F ?_ | refine bi_not ?_ | refine bi_and ?_ | refine bi_or ?_ | refine bi_xor ?_ | refine bi_shr (by omega) (by decide) ?_ | refine bi_shl (by omega) (by decide) ?_ | refine bi_quo64 (by omega) ?_ | refine bi_rem64 (by omega) ?_ | refine bi_mul64 (by omega) ?_ | refine bi_neg ?_ | refine bi_un_xor32 ?_ | refine bi_add ?_ | refine bi_sub ?_ | refine bi_mul ?_ | refine bi_quo (by decide) ?_ | refine bi_rem (by decide) ?_)
    have hv2 : Vals w5 [p2] (toldQV (lookQ V l[k].cl l[k].no).2) := ho5.rd (l := toldQV (lookQ V l[k].cl l[k].no).2) (fun _ => rfl) fun x hx => rVal_of (hok x hx)
    refine (sameRep_spec _ _ _ _ _ _ w5 hv2 (keeps_Vals _ _ _ _ hb5 hv4) (RowsR.nil _ 0 (by decide)) (keeps_RowsR _ _ _ _ hb5 hq4)).mono ?_
    rintro _ w6 ⟨rfl, hb6⟩
    (repeat with_reducible first | refine nck ?_ | refine cdT ?_ | refine cdF ?_ | refine gdY ?_ | refine gdFT ?_ | refine gdTF ?_ | refine gdU ?_ | refine gaY ?_ | refine gaFT ?_ | refine gaTF ?_ | refine pickT ?_ | refine pickF ?_ | refine bi_lss_t (by omega) ?_ | refine bi_lss_f (by omega) ?_ | refine bi_add64 (by omega) ?_ | refine bi_sub64 (by omega) ?_ | refine bi_eql_t (by omega) ?_ | refine bi_eql_f (by omega) ?_ | refine bi_neq_t (by omega) ?_ | refine bi_neq_f (by omega) ?_ | refine bi_gtr_t (by omega) ?_ | refine bi_gtr_f (by omega) ?_ | refine bi_leq_t (by omega) ?_ | refine bi_leq_f (by omega) ?_ | refine bi_geq_t (by omega) ?_ | refine bi_geq_f (by omega) ?_ | refine bi_xt0 ?_ | refine bi_xt1 ?_ | refine bi_xt2 ?_ | refine bi_xt3 ?_ | refine bi_T ?_ | refine bi_F ?_ | refine bi_not ?_ | refine bi_and ?_ | refine bi_or ?_ | refine bi_xor ?_ | refine bi_shr (by omega) (by decide) ?_ | refine bi_shl (by omega) (by decide) ?_ | refine bi_quo64 (by omega) ?_ | refine bi_rem64 (by omega) ?_ | refine bi_mul64 (by omega) ?_ | refine bi_neg ?_ | refine bi_un_xor32 ?_ | refine bi_add ?_ | refine bi_sub ?_ | refine bi_mul ?_ | refine bi_quo (by decide) ?_ | refine bi_rem (by decide) ?_)
    have hb16 := below_then hb15 hb6
    have hA6 := hA1.below hb16
    have hM6 := hM1.below hb16
    refine (Floor_V l[k].cl hA6).mono ?_
    rintro _ _ ⟨rfl, rfl⟩
    (repeat with_reducible first | refine nck ?_ | refine cdT ?_ | refine cdF ?_ | refine gdY ?_ | refine gdFT ?_ | refine gdTF ?_ | refine gdU ?_ | refine gaY ?_ | refine gaFT ?_ | refine gaTF ?_ | refine pickT ?_ | refine pickF ?_ | refine bi_lss_t (by omega) ?_ | refine bi_lss_f (by omega) ?_ | refine bi_add64 (by omega) ?_ | refine bi_sub64 (by omega) ?_ | refine bi_eql_t (by omega) ?_ | refine bi_eql_f (by omega) ?_ | refine bi_neq_t (by omega) ?_ | refine bi_neq_f (by omega) ?_ | refine bi_gtr_t (by omega) ?_ | refine bi_gtr_f (by omega) ?_ | refine bi_leq_t (by omega) ?_ | refine bi_leq_f (by omega) ?_ | refine bi_geq_t (by omega) ?_ | refine bi_geq_f (by omega) ?_ | refine bi_xt0 ?_ | refine bi_xt1 ?_ | refine bi_xt2 ?_ | refine bi_xt3 ?_ | refine bi_T ?_ | refine bi_F ?_ | refine bi_not ?_ | refine bi_and ?_ | refine bi_or ?_ | refine bi_xor ?_ | refine bi_shr (by omega) (by decide) ?_ | refine bi_shl (by omega) (by decide) ?_ | refine bi_quo64 (by omega) ?_ | refine bi_rem64 (by omega) ?_ | refine bi_mul64 (by omega) ?_ | refine bi_neg ?_ | refine bi_un_xor32 ?_ | refine bi_add ?_ | refine bi_sub ?_ | refine bi_mul ?_ | refine bi_quo (by decide) ?_ | refine bi_rem (by decide) ?_)
    refine (refFloor_V l[k].cl hM6 (by omega)).mono ?_
    rintro _ _ ⟨rfl, rfl⟩
    (repeat with_reducible first | refine nck ?_ | refine cdT ?_ | refine cdF ?_ | refine gdY ?_ | refine gdFT ?_ | refine gdTF ?_ | refine gdU ?_ | refine gaY ?_ | refine gaFT ?_ | refine gaTF ?_ | refine pickT ?_ | refine pickF ?_ | refine bi_lss_t (by omega) ?_ | refine bi_lss_f (by omega) ?_ | refine bi_add64 (by omega) ?_ | refine bi_sub64 (by omega) ?_ | refine bi_eql_t (by omega) ?_ | refine bi_eql_f (by omega) ?_ | refine bi_neq_t (by omega) ?_ | refine bi_neq_f (by omega) ?_ | refine bi_gtr_t (by omega) ?_ | refine bi_gtr_f (by omega) ?_ | refine bi_leq_t (by omega) ?_ | refine bi_leq_f (by omega) ?_ | refine bi_geq_t (by omega) ?_ | refine bi_geq_f (by omega) ?_ | refine bi_xt0 ?_ | refine bi_xt1 ?_ | refine bi_xt2 ?_ | refine bi_xt3 ?_ | refine bi_T ?_ | refine bi_F ?_ | refine bi_not ?_ | refine bi_and ?_ | refine bi_or ?_ | refine bi_xor ?_ | refine bi_shr (by omega) (by decide) ?_ | refine bi_shl (by omega) (by decide) ?_ | refine bi_quo64 (by omega) ?_ | refine bi_rem64 (by omega) ?_ | refine bi_mul64 (by omega) ?_ | refine bi_neg ?_ | refine bi_un_xor32 ?_ | refine bi_add ?_ | refine bi_sub ?_ | refine bi_mul ?_ | refine bi_quo (by decide) ?_ | refine bi_rem (by decide) ?_)
    refine (Known_V l[k].cl hA6).mono ?_
    rintro r7 w7 ⟨ho7, hf7, hb7⟩
    (repeat with_reducible first | refine nck ?_ | refine cdT ?_ | refine cdF ?_ | refine gdY ?_ | refine gdFT ?_ | refine gdTF ?_ | refine gdU ?_ | refine gaY ?_ | refine gaFT ?_ | refine gaTF ?_ | refine pickT ?_ | refine pickF ?_ | refine bi_lss_t (by omega) ?_ | refine bi_lss_f (by omega) ?_ | refine bi_add64 (by omega) ?_ | refine bi_sub64 (by omega) ?_ | refine bi_eql_t (by omega) ?_ | refine bi_eql_f (by omega) ?_ | refine bi_neq_t (by omega) ?_ | refine bi_neq_f (by omega) ?_ | refine bi_gtr_t (by omega) ?_ | refine bi_gtr_f (by omega) ?_ | refine bi_leq_t (by omega) ?_ | refine bi_leq_f (by omega) ?_ | refine bi_geq_t (by omega) ?_ | refine bi_geq_f (by omega) ?_ | refine bi_xt0 ?_ | refine bi_xt1 ?_ | refine bi_xt2 ?_ | refine bi_xt3 ?_ | refine bi_T ?_ | refine bi_F ?_ | refine bi_not ?_ | refine bi_and ?_ | refine bi_or ?_ | refine bi_xor ?_ | refine bi_shr (by omega) (by decide) ?_ | refine bi_shl (by omega) (by decide) ?_ | refine bi_quo64 (by omega) ?_ | refine bi_rem64 (by omega) ?_ | refine bi_mul64 (by omega) ?_ | refine bi_neg ?_ | refine bi_un_xor32 ?_ | refine bi_add ?_ | refine bi_sub ?_ | refine bi_mul ?_ | refine bi_quo (by decide) ?_ | refine bi_rem (by decide) ?_)
    refine (refKnown_V l[k].cl (hM6.below hb7) (by omega)).mono ?_
    rintro r8 w8 ⟨ho8, hf8, hb8⟩
    (repeat with_reducible first | refine nck ?_ | refine cdT ?_ | refine cdF ?_ | refine gdY ?_ | refine gdFT ?_ | refine gdTF ?_ | refine gdU ?_ | refine gaY ?_ | refine gaFT ?_ | refine gaTF ?_ | refine pickT ?_ | refine pickF ?_ | refine bi_lss_t (by omega) ?_ | refine bi_lss_f (by omega) ?_ | refine bi_add64 (by omega) ?_ | refine bi_sub64 (by omega) ?_ | refine bi_eql_t (by omega) ?_ | refine bi_eql_f (by omega) ?_ | refine bi_neq_t (by omega) ?_ | refine bi_neq_f (by omega) ?_ | refine bi_gtr_t (by omega) ?_ | refine bi_gtr_f (by omega) ?_ | refine bi_leq_t (by omega) ?_ | refine bi_leq_f (by omega) ?_ | refine bi_geq_t (by omega) ?_ | refine bi_geq_f (by omega) ?_ | refine bi_xt0 ?_ | refine bi_xt1 ?_ | refine bi_xt2 ?_ | refine bi_xt3 ?_ | refine bi_T ?_ | refine bi_F ?_ | refine bi_not ?_ | refine bi_and ?_ | refine bi_or ?_ | refine bi_xor ?_ | refine bi_shr (by omega) (by decide) ?_ | refine bi_shl (by omega) (by decide) ?_ | refine bi_quo64 (by omega) ?_ | refine bi_rem64 (by omega) ?_ | refine bi_mul64 (by omega) ?_ | refine bi_neg ?_ | refine bi_un_xor32 ?_ | refine bi_add ?_ | refine bi_sub ?_ | refine bi_mul ?_ | refine bi_quo (by decide) ?_ | refine bi_rem (by decide) ?_)
    have h4 := (hA.good l[k].cl).len
    refine (sameInts_spec r7 r8 _ w8 (ho7.below hb8).rd ho8.rd (by rw [List.length_map]; omega)).mono ?_
    rintro _ w9 ⟨rfl, hb9⟩
    (repeat with_reducible first | refine nck ?_ | refine cdT ?_ | refine cdF ?_ | refine gdY ?_ | refine gdFT ?_ | refine gdTF ?_ | refine gdU ?_ | refine gaY ?_ | refine gaFT ?_ | refine gaTF ?_ | refine pickT ?_ | refine pickF ?_ | refine bi_lss_t (by omega) ?_ | refine bi_lss_f (by omega) ?_ | refine bi_add64 (by omega) ?_ | refine bi_sub64 (by omega) ?_ | refine bi_eql_t (by omega) ?_ | refine bi_eql_f (by omega) ?_ | refine bi_neq_t (by omega) ?_ | refine bi_neq_f (by omega) ?_ | refine bi_gtr_t (by omega) ?_ | refine bi_gtr_f (by omega) ?_ | refine bi_leq_t (by omega) ?_ | refine bi_leq_f (by omega) ?_ | refine bi_geq_t (by omega) ?_ | refine bi_geq_f (by omega) ?_ | refine bi_xt0 ?_ | refine bi_xt1 ?_ | refine bi_xt2 ?_ | refine bi_xt3 ?_ | refine bi_T ?_ | refine bi_F ?_ | refine bi_not ?_ | refine bi_and ?_ | refine bi_or ?_ | refine bi_xor ?_ | refine bi_shr (by omega) (by decide) ?_ | refine bi_shl (by omega) (by decide) ?_ | refine bi_quo64 (by omega) ?_ | refine bi_rem64 (by omega) ?_ | refine bi_mul64 (by omega) ?_ | refine bi_neg ?_ | refine bi_un_xor32 ?_ | refine bi_add ?_ | refine bi_sub ?_ | refine bi_mul ?_ | refine bi_quo (by decide) ?_ | refine bi_rem (by decide) ?_)
    exact hJ _ _ ⟨k + 1, by omega, by simp, below_then (below_then (below_then (below_then hb1d hb16) hb7) hb8) hb9⟩ (by simp [intOf]; omega)
  · (repeat with_reducible first | refine nck ?_ | refine cdT ?_ | refine cdF ?_ | refine gdY ?_ | refine gdFT ?_ | refine gdTF ?_ | refine gdU ?_ | refine gaY ?_ | refine gaFT ?_ | refine gaTF ?_ | refine pickT ?_ | refine pickF ?_ | refine bi_lss_t (by omega) ?_ | refine bi_lss_f (by omega) ?_ | refine bi_add64 (by omega) ?_ | refine bi_sub64 (by omega) ?_ | refine bi_eql_t (by omega) ?_ | refine bi_eql_f (by omega) ?_ | refine bi_neq_t (by omega) ?_ | refine bi_neq_f (by omega) ?_ | refine bi_gtr_t (by omega) ?_ | refine bi_gtr_f (by omega) ?_ | refine bi_leq_t (by omega) ?_ | refine bi_leq_f (by omega) ?_ | refine bi_geq_t (by omega) ?_ | refine bi_geq_f (by omega) ?_ | refine bi_xt0 ?_ | refine bi_xt1 ?_ | refine bi_xt2 ?_ | refine bi_xt3 ?_ | refine bi_T ?_ | refine bi_F ?_ | refine bi_not ?_ | refine bi_and ?_ | refine bi_or ?_ | refine bi_xor ?_ | refine bi_shr (by omega) (by decide) ?_ | refine bi_shl (by omega) (by decide) ?_ | refine bi_quo64 (by omega) ?_ | refine bi_rem64 (by omega) ?_ | refine bi_mul64 (by omega) ?_ | refine bi_neg ?_ | refine bi_un_xor32 ?_ | refine bi_add ?_ | refine bi_sub ?_ | refine bi_mul ?_ | refine bi_quo (by decide) ?_ | refine bi_rem (by decide) ?_)
    exact ⟨trivial, hb1⟩
end Go.Proofs.Ytmnaggdhkggjhaa.E
/- OncePlays: whatever is kept, each call answers what the document says. -/
namespace Go.Proofs.Ytmnaggdhkggjhaa.E
open Go Go.RowKit
set_option linter.unusedSimpArgs false
set_option linter.unusedVariables false

theorem z47 : (Try.prog.info? 47).bind (·.zero) = some (.agg #[.int .i64 0, .int .i64 0, .int .i64 0, .int .i64 0, .bool false, .slice none 0 0, .slice none 0 0, .int .i64 0]) := by kernel_rfl
theorem OncePlays_spec (v : Value) (l : List ActT) (w : World) (hv : Acts w [v] l) :
    CallP Try.prog 4 #[v] (fun r w' => r = .bool true ∧ Below w.heap.size w w') w := by
  obtain ⟨A, cA, rfl, _, hmA⟩ := hv.slice
  refine ⟨S4.calls _ _ _ ?_⟩
  unfold S4
  refine (awake_spec w).mono ?_
  rintro _ w1 ⟨rfl, hb1⟩
  (repeat with_reducible first | refine nck ?_ | refine cdT ?_ | refine cdF ?_ | refine gdY ?_ | refine gdFT ?_ | refine gdTF ?_ | refine gdU ?_ | refine gaY ?_ | refine gaFT ?_ | refine gaTF ?_ | refine pickT ?_ | refine pickF ?_ | refine bi_lss_t (by omega) ?_ | refine bi_lss_f (by omega) ?_ | refine bi_add64 (by omega) ?_ | refine bi_sub64 (by omega) ?_ | refine bi_eql_t (by omega) ?_ | refine bi_eql_f (by omega) ?_ | refine bi_neq_t (by omega) ?_ | refine bi_neq_f (by omega) ?_ | refine bi_gtr_t (by omega) ?_ | refine bi_gtr_f (by omega) ?_ | refine bi_leq_t (by omega) ?_ | refine bi_leq_f (by omega) ?_ | refine bi_geq_t (by omega) ?_ | refine bi_geq_f (by omega) ?_ | refine bi_xt0 ?_ | refine bi_xt1 ?_ | refine bi_xt2 ?_ | refine bi_xt3 ?_ | refine bi_T ?_ | refine bi_F ?_ | refine bi_not ?_ | refine bi_and ?_ | refine bi_or ?_ | refine bi_xor ?_ | refine bi_shr (by omega) (by decide) ?_ | refine bi_shl (by omega) (by decide) ?_ | refine bi_quo64 (by omega) ?_ | refine bi_rem64 (by omega) ?_ | refine bi_mul64 (by omega) ?_ | refine bi_neg ?_ | refine bi_un_xor32 ?_ | refine bi_add ?_ | refine bi_sub ?_ | refine bi_mul ?_ | refine bi_quo (by decide) ?_ | refine bi_rem (by decide) ?_)
  refine (lightActs_spec _ l w1 (keeps_Acts _ _ _ _ hb1 hv)).mono ?_
  rintro _ _ ⟨b, rfl, hlight, rfl⟩
  cases b with
  | false =>
    (repeat with_reducible first | refine nck ?_ | refine cdT ?_ | refine cdF ?_ | refine gdY ?_ | refine gdFT ?_ | refine gdTF ?_ | refine gdU ?_ | refine gaY ?_ | refine gaFT ?_ | refine gaTF ?_ | refine pickT ?_ | refine pickF ?_ | refine bi_lss_t (by omega) ?_ | refine bi_lss_f (by omega) ?_ | refine bi_add64 (by omega) ?_ | refine bi_sub64 (by omega) ?_ | refine bi_eql_t (by omega) ?_ | refine bi_eql_f (by omega) ?_ | refine bi_neq_t (by omega) ?_ | refine bi_neq_f (by omega) ?_ | refine bi_gtr_t (by omega) ?_ | refine bi_gtr_f (by omega) ?_ | refine bi_leq_t (by omega) ?_ | refine bi_leq_f (by omega) ?_ | refine bi_geq_t (by omega) ?_ | refine bi_geq_f (by omega) ?_ | refine bi_xt0 ?_ | refine bi_xt1 ?_ | refine bi_xt2 ?_ | refine bi_xt3 ?_ | refine bi_T ?_ | refine bi_F ?_ | refine bi_not ?_ | refine bi_and ?_ | refine bi_or ?_ | refine bi_xor ?_ | refine bi_shr (by omega) (by decide) ?_ | refine bi_shl (by omega) (by decide) ?_ | refine bi_quo64 (by omega) ?_ | refine bi_rem64 (by omega) ?_ | refine bi_mul64 (by omega) ?_ | refine bi_neg ?_ | refine bi_un_xor32 ?_ | refine bi_add ?_ | refine bi_sub ?_ | refine bi_mul ?_ | refine bi_quo (by decide) ?_ | refine bi_rem (by decide) ?_)
    exact ⟨rfl, hb1⟩
  | true =>
  obtain ⟨hl100, hla⟩ := hlight rfl
  (repeat with_reducible first | refine nck ?_ | refine cdT ?_ | refine cdF ?_ | refine gdY ?_ | refine gdFT ?_ | refine gdTF ?_ | refine gdU ?_ | refine gaY ?_ | refine gaFT ?_ | refine gaTF ?_ | refine pickT ?_ | refine pickF ?_ | refine bi_lss_t (by omega) ?_ | refine bi_lss_f (by omega) ?_ | refine bi_add64 (by omega) ?_ | refine bi_sub64 (by omega) ?_ | refine bi_eql_t (by omega) ?_ | refine bi_eql_f (by omega) ?_ | refine bi_neq_t (by omega) ?_ | refine bi_neq_f (by omega) ?_ | refine bi_gtr_t (by omega) ?_ | refine bi_gtr_f (by omega) ?_ | refine bi_leq_t (by omega) ?_ | refine bi_leq_f (by omega) ?_ | refine bi_geq_t (by omega) ?_ | refine bi_geq_f (by omega) ?_ | refine bi_xt0 ?_ | refine bi_xt1 ?_ | refine bi_xt2 ?_ | refine bi_xt3 ?_ | refine bi_T ?_ | refine bi_F ?_ | refine bi_not ?_ | refine bi_and ?_ | refine bi_or ?_ | refine bi_xor ?_ | refine bi_shr (by omega) (by decide) ?_ | refine bi_shl (by omega) (by decide) ?_ | refine bi_quo64 (by omega) ?_ | refine bi_rem64 (by omega) ?_ | refine bi_mul64 (by omega) ?_ | refine bi_neg ?_ | refine bi_un_xor32 ?_ | refine bi_add ?_ | refine bi_sub ?_ | refine bi_mul ?_ | refine bi_quo (by decide) ?_ | refine bi_rem (by decide) ?_)
  refine (New_V 1 (by decide) (fun _ => 0) w1).mono ?_
  rintro _ w2 ⟨ga, c2, rfl, hc2, h2, hb2⟩
  refine bd (cells := #[.slice none 0 0, .slice none 0 0]) (by kernel_rfl) ?_
  refine bx ?_
  have hb3 := (Below.refl w2.heap.size w2).alloc (Nat.le_refl _) (.cells (Value.agg #[.slice none 0 0, .slice none 0 0]).cells 45)
  have hM3 := newRef_V (hu := 2) (by decide) c2 w2
  have hA3 : TabV 1 (col c2 w2.heap.size 2) (w2.alloc (.cells (Value.agg #[.slice none 0 0, .slice none 0 0]).cells 45)) ga V0 0 := (h2.re (col_lt _ _ _)).below hb3
  have hs1 := hb1.size
  have hs2 := hb2.size
  have hb3' := below_then (below_then hb1 hb2) hb3
  have hz3 : ∀ k, k < w.heap.size → col c2 w2.heap.size 2 k = 0 := fun k hk => by rw [col_lt _ _ _ k (by omega), hc2 k (by omega)]
  generalize w2.alloc (.cells (Value.agg #[.slice none 0 0, .slice none 0 0]).cells 45) = w3 at *
  generalize w2.heap.size = gm at *
  generalize col c2 gm 2 = c3 at *
  refine LoopP.inv1 (fun iv w' => ∃ (k : Nat) (c : Nat → Nat) (V : Int → VC), k ≤ l.length ∧ iv = .int .i64 k ∧ TabV 1 c w' ga V k ∧ RefV 2 c w' gm V k ∧ (∀ j, j < w.heap.size → c j = 0) ∧ Below w.heap.size w w') (fun iv _ => l.length - (intOf iv).toNat)
    ⟨0, c3, V0, by omega, rfl, hA3, hM3, hz3, hb3'⟩ ?_
  rintro _ w4 ⟨k, c, V, hk, rfl, ha, hm, hz, hb4⟩ J hJ
  dsimp only [List.headD_cons, List.tail_cons]
  refine ln und39 ?_
  refine bi_lss_c (fun h => ?_) (fun h => ?_)
  · have hk' : k < l.length := by omega
    obtain ⟨a, p, q, rfl, hcell, hp, hq⟩ := act_whole hv k hk'
    have hla' := hla l[k] (List.getElem_mem hk')
    have hus : ∀ j u, (kaF (l[k], p, q))[j]? = some u → w4.cell? ((a.add (k * 8)).add j) = some u := fun j u hu => by rw [hb4.cell (World.block_lt_of_cell? _ _ (hcell j u hu)), hcell j u hu]
    have h1p : p.oneCell' = true := by obtain ⟨A, c, e, _⟩ := hp.slice; rw [e]; rfl
    have h1q : q.oneCell' = true := by obtain ⟨A, c, e, _⟩ := hq.slice; rw [e]; rfl
    (repeat with_reducible first | refine nck ?_ | refine cdT ?_ | refine cdF ?_ | refine gdY ?_ | refine gdFT ?_ | refine gdTF ?_ | refine gdU ?_ | refine gaY ?_ | refine gaFT ?_ | refine gaTF ?_ | refine pickT ?_ | refine pickF ?_ | refine bi_lss_t (by omega) ?_ | refine bi_lss_f (by omega) ?_ | refine bi_add64 (by omega) ?_ | refine bi_sub64 (by omega) ?_ | refine bi_eql_t (by omega) ?_ | refine bi_eql_f (by omega) ?_ | refine bi_neq_t (by omega) ?_ | refine bi_neq_f (by omega) ?_ | refine bi_gtr_t (by omega) ?_ | refine bi_gtr_f (by omega) ?_ | refine bi_leq_t (by omega) ?_ | refine bi_leq_f (by omega) ?_ | refine bi_geq_t (by omega) ?_ | refine bi_geq_f (by omega) ?_ | refine bi_xt0 ?_ | refine bi_xt1 ?_ | refine bi_xt2 ?_ | refine bi_xt3 ?_ | refine bi_T ?_ | refine bi_F ?_ | refine bi_not ?_ | refine bi_and ?_ | refine bi_or ?_ | refine bi_xor ?_ | refine bi_shr (by omega) (by decide) ?_ | refine bi_shl (by omega) (by decide) ?_ | refine bi_quo64 (by omega) ?_ | refine bi_rem64 (by omega) ?_ | refine bi_mul64 (by omega) ?_ | refine bi_neg ?_ | refine bi_un_xor32 ?_ | refine bi_add ?_ | refine bi_sub ?_ | refine bi_mul ?_ | refine bi_quo (by decide) ?_ | refine bi_rem (by decide) ?_)
    refine ixN und39 sz47 k hk' ?_
    refine ldR agg47 hus (by rw [sz47]; rfl) ?_
    refine al z47 ?_
    have hB5 := Blk.new w4 47 (Value.agg #[.int .i64 0, .int .i64 0, .int .i64 0, .int .i64 0, .bool false, .slice none 0 0, .slice none 0 0, .int .i64 0]).cells
    have ha5 := (Below.refl w4.heap.size w4).alloc (Nat.le_refl _) (.cells (Value.agg #[.int .i64 0, .int .i64 0, .int .i64 0, .int .i64 0, .bool false, .slice none 0 0, .slice none 0 0, .int .i64 0]).cells 47)
    refine stA hB5 (by rw [sz47]; rfl) (by rfl) (by
      rw [← Array.all_toList, List.all_eq_true]
      exact fun u hu => one_ka (l[k], p, q) h1p h1q u hu) ?_
    have hK5 := hB5.row (kaF (l[k], p, q)).toArray
    have hb5 : Below w4.heap.size w4 _ := below_setRow ha5 (Nat.le_refl _) (kaF (l[k], p, q)).toArray
    generalize (w4.alloc (.cells (Value.agg #[.int .i64 0, .int .i64 0, .int .i64 0, .int .i64 0, .bool false, .slice none 0 0, .slice none 0 0, .int .i64 0]).cells 47)).setRow w4.heap.size (kaF (l[k], p, q)).toArray = w5 at *
    have hs4 := hb4.size
    have hcol := col_lt c w4.heap.size 0
    have ha5' : TabV 1 (col c w4.heap.size 0) w5 ga V k := (ha.re hcol).below hb5
    have hm5' : RefV 2 (col c w4.heap.size 0) w5 gm V k := (hm.re hcol).below hb5
    have hkz : col c w4.heap.size 0 w4.heap.size = 0 := col_ge _ _ _ (Nat.le_refl _)
    have hz5 : ∀ j, j < w.heap.size → col c w4.heap.size 0 j = 0 := fun j hj => by rw [hcol j (by omega), hz j hj]
    have hb5' := below_then hb4 hb5
    generalize col c w4.heap.size 0 = c5 at *
    generalize hgk : w4.heap.size = gk at *
    have d1 : w5.cell? ⟨gk, 1, none⟩ = some (.int .i64 l[k].cl) := hK5.cell 1
    have d2 : w5.cell? ⟨gk, 2, none⟩ = some (.int .i64 l[k].no) := hK5.cell 2
    (repeat with_reducible first | refine fd q1 (by decide) ?_ | refine ld one3 d1 ?_ | refine fd q2 (by decide) ?_ | refine ld one3 d2 ?_ | refine nck ?_ | refine cdT ?_ | refine cdF ?_ | refine gdY ?_ | refine gdFT ?_ | refine gdTF ?_ | refine gdU ?_ | refine gaY ?_ | refine gaFT ?_ | refine gaTF ?_ | refine pickT ?_ | refine pickF ?_ | refine bi_lss_t (by omega) ?_ | refine bi_lss_f (by omega) ?_ | refine bi_add64 (by omega) ?_ | refine bi_sub64 (by omega) ?_ | refine bi_eql_t (by omega) ?_ | refine bi_eql_f (by omega) ?_ | refine bi_neq_t (by omega) ?_ | refine bi_neq_f (by omega) ?_ | refine bi_gtr_t (by omega) ?_ | refine bi_gtr_f (by omega) ?_ | refine bi_leq_t (by omega) ?_ | refine bi_leq_f (by omega) ?_ | refine bi_geq_t (by omega) ?_ | refine bi_geq_f (by omega) ?_ | refine bi_xt0 ?_ | refine bi_xt1 ?_ | refine bi_xt2 ?_ | refine bi_xt3 ?_ | refine bi_T ?_ | refine bi_F ?_ | refine bi_not ?_ | refine bi_and ?_ | refine bi_or ?_ | refine bi_xor ?_ | refine bi_shr (by omega) (by decide) ?_ | refine bi_shl (by omega) (by decide) ?_ | refine bi_quo64 (by omega) ?_ | refine bi_rem64 (by omega) ?_ | refine bi_mul64 (by omega) ?_ | refine bi_neg ?_ | refine bi_un_xor32 ?_ | refine bi_add ?_ | refine bi_sub ?_ | refine bi_mul ?_ | refine bi_quo (by decide) ?_ | refine bi_rem (by decide) ?_)
    have hok := lookQ_ok ha.good l[k].cl l[k].no
    refine (Look_V l[k].cl l[k].no ha5').mono ?_
    rintro _ w6 ⟨p6, rfl, ho6, hf6, hb6⟩
    have h1p6 : p6.oneCell' = true := by obtain ⟨A, e⟩ := ho6.slice; rw [e]; rfl
    (repeat with_reducible first | refine nck ?_ | refine cdT ?_ | refine cdF ?_ | refine gdY ?_ | refine gdFT ?_ | refine gdTF ?_ | refine gdU ?_ | refine gaY ?_ | refine gaFT ?_ | refine gaTF ?_ | refine pickT ?_ | refine pickF ?_ | refine bi_lss_t (by omega) ?_ | refine bi_lss_f (by omega) ?_ | refine bi_add64 (by omega) ?_ | refine bi_sub64 (by omega) ?_ | refine bi_eql_t (by omega) ?_ | refine bi_eql_f (by omega) ?_ | refine bi_neq_t (by omega) ?_ | refine bi_neq_f (by omega) ?_ | refine bi_gtr_t (by omega) ?_ | refine bi_gtr_f (by omega) ?_ | refine bi_leq_t (by omega) ?_ | refine bi_leq_f (by omega) ?_ | refine bi_geq_t (by omega) ?_ | refine bi_geq_f (by omega) ?_ | refine bi_xt0 ?_ | refine bi_xt1 ?_ | refine bi_xt2 ?_ | refine bi_xt3 ?_ | refine bi_T ?_ | refine bi_F ?_ | refine bi_not ?_ | refine bi_and ?_ | refine bi_or ?_ | refine bi_xor ?_ | refine bi_shr (by omega) (by decide) ?_ | refine bi_shl (by omega) (by decide) ?_ | refine bi_quo64 (by omega) ?_ | refine bi_rem64 (by omega) ?_ | refine bi_mul64 (by omega) ?_ | refine bi_neg ?_ | refine bi_un_xor32 ?_ | refine bi_add ?_ | refine bi_sub ?_ | refine bi_mul ?_ | refine bi_quo (by decide) ?_ | refine bi_rem (by decide) ?_)
    refine newRep h1p6 rfl ?_
    intro w7 hB7 hb7
    have ho7 := ho6.below hb7
    have hb57 := below_then hb6 hb7
    have hK7 := hK5.below' hb57
    have d1 : w7.cell? ⟨gk, 1, none⟩ = some (.int .i64 l[k].cl) := hK7.cell 1
    have d2 : w7.cell? ⟨gk, 2, none⟩ = some (.int .i64 l[k].no) := hK7.cell 2
    (repeat with_reducible first | refine fd q1 (by decide) ?_ | refine ld one3 d1 ?_ | refine fd q2 (by decide) ?_ | refine ld one3 d2 ?_ | refine nck ?_ | refine cdT ?_ | refine cdF ?_ | refine gdY ?_ | refine gdFT ?_ | refine gdTF ?_ | refine gdU ?_ | refine gaY ?_ | refine gaFT ?_ | refine gaTF ?_ | refine pickT ?_ | refine pickF ?_ | refine bi_lss_t (by omega) ?_ | refine bi_lss_f (by omega) ?_ | refine bi_add64 (by omega) ?_ | refine bi_sub64 (by omega) ?_ | refine bi_eql_t (by omega) ?_ | refine bi_eql_f (by omega) ?_ | refine bi_neq_t (by omega) ?_ | refine bi_neq_f (by omega) ?_ | refine bi_gtr_t (by omega) ?_ | refine bi_gtr_f (by omega) ?_ | refine bi_leq_t (by omega) ?_ | refine bi_leq_f (by omega) ?_ | refine bi_geq_t (by omega) ?_ | refine bi_geq_f (by omega) ?_ | refine bi_xt0 ?_ | refine bi_xt1 ?_ | refine bi_xt2 ?_ | refine bi_xt3 ?_ | refine bi_T ?_ | refine bi_F ?_ | refine bi_not ?_ | refine bi_and ?_ | refine bi_or ?_ | refine bi_xor ?_ | refine bi_shr (by omega) (by decide) ?_ | refine bi_shl (by omega) (by decide) ?_ | refine bi_quo64 (by omega) ?_ | refine bi_rem64 (by omega) ?_ | refine bi_mul64 (by omega) ?_ | refine bi_neg ?_ | refine bi_un_xor32 ?_ | refine bi_add ?_ | refine bi_sub ?_ | refine bi_mul ?_ | refine bi_quo (by decide) ?_ | refine bi_rem (by decide) ?_)
    refine (refLook_V l[k].cl l[k].no (hm5'.below hb57) (by omega)).mono ?_
    rintro _ w8 ⟨p8, q8, rfl, hv8, hq8, h1p8, h1q8, hb8⟩
    (repeat with_reducible first | refine nck ?_ | refine cdT ?_ | refine cdF ?_ | refine gdY ?_ | refine gdFT ?_ | refine gdTF ?_ | refine gdU ?_ | refine gaY ?_ | refine gaFT ?_ | refine gaTF ?_ | refine pickT ?_ | refine pickF ?_ | refine bi_lss_t (by omega) ?_ | refine bi_lss_f (by omega) ?_ | refine bi_add64 (by omega) ?_ | refine bi_sub64 (by omega) ?_ | refine bi_eql_t (by omega) ?_ | refine bi_eql_f (by omega) ?_ | refine bi_neq_t (by omega) ?_ | refine bi_neq_f (by omega) ?_ | refine bi_gtr_t (by omega) ?_ | refine bi_gtr_f (by omega) ?_ | refine bi_leq_t (by omega) ?_ | refine bi_leq_f (by omega) ?_ | refine bi_geq_t (by omega) ?_ | refine bi_geq_f (by omega) ?_ | refine bi_xt0 ?_ | refine bi_xt1 ?_ | refine bi_xt2 ?_ | refine bi_xt3 ?_ | refine bi_T ?_ | refine bi_F ?_ | refine bi_not ?_ | refine bi_and ?_ | refine bi_or ?_ | refine bi_xor ?_ | refine bi_shr (by omega) (by decide) ?_ | refine bi_shl (by omega) (by decide) ?_ | refine bi_quo64 (by omega) ?_ | refine bi_rem64 (by omega) ?_ | refine bi_mul64 (by omega) ?_ | refine bi_neg ?_ | refine bi_un_xor32 ?_ | refine bi_add ?_ | refine bi_sub ?_ | refine bi_mul ?_ | refine bi_quo (by decide) ?_ | refine bi_rem (by decide) ?_)
    refine newRep h1p8 h1q8 ?_
    intro w9 hB9 hb9
    have hb79 := below_then hb8 hb9
    have hB79 := hB7.below' hb79
    have ho9 := ho7.below hb79
    have hb59 := below_then hb57 hb79
    have hK9 := hK5.below' hb59
    have hdr : Below w9.heap.size w9 w9.drew := (Below.refl _ _).drew
    have hb9' := below_then hb5' hb59
    have hs9 := hb9'.size
    have hs5 := hb5'.size
    have hK9d := hK9.below' hdr
    have hBl7 := hB79.lt
    have hBl9 := hB9.lt
    refine draw (fun w' => Blk w' w6.heap.size 27 _ ∧ Blk w' w8.heap.size 27 _ ∧ Blk w' gk 47 (kaF (l[k], p, q)).toArray) ⟨hB79.below' hdr, hB9.below' hdr, hK9d⟩ ?_
    refine yi_neq ?_
    rw [decide_eq_false (by simp)]
    (repeat with_reducible first | refine ynck ?_ | refine nck ?_ | refine cdT ?_ | refine cdF ?_ | refine gdY ?_ | refine gdFT ?_ | refine gdTF ?_ | refine gdU ?_ | refine gaY ?_ | refine gaFT ?_ | refine gaTF ?_ | refine pickT ?_ | refine pickF ?_ | refine yi_lss_t (by omega) ?_ | refine yi_lss_f (by omega) ?_ | refine yi_add64 (by omega) ?_ | refine yi_sub64 (by omega) ?_ | refine yi_eql_t (by omega) ?_ | refine yi_eql_f (by omega) ?_ | refine yi_neq_t (by omega) ?_ | refine yi_neq_f (by omega) ?_ | refine yi_gtr_t (by omega) ?_ | refine yi_gtr_f (by omega) ?_ | refine yi_leq_t (by omega) ?_ | refine yi_leq_f (by omega) ?_ | refine yi_geq_t (by omega) ?_ | refine yi_geq_f (by omega) ?_ | refine yi_xt0 ?_ | refine yi_xt1 ?_ | refine yi_xt2 ?_ | refine yi_xt3 ?_ | refine yi_T ?_ | refine yi_F ?_ | refine yi_not ?_ | refine yi_and ?_ | refine yi_or ?_ | refine yi_xor ?_ | refine yi_shr (by omega) (by decide) ?_ | refine yi_shl (by omega) (by decide) ?_ | refine yi_quo64 (by omega) ?_ | refine yi_rem64 (by omega) ?_ | refine yi_mul64 (by omega) ?_ | refine yi_neg ?_ | refine yi_un_xor32 ?_ | refine yi_add ?_ | refine yi_sub ?_ | refine yi_mul ?_ | refine yi_quo (by decide) ?_ | refine yi_rem (by decide) ?_)
    refine yldA agg27 (fun w' h => h.1) (by exact sz27) ?_
    (repeat with_reducible first | refine ynck ?_ | refine nck ?_ | refine cdT ?_ | refine cdF ?_ | refine gdY ?_ | refine gdFT ?_ | refine gdTF ?_ | refine gdU ?_ | refine gaY ?_ | refine gaFT ?_ | refine gaTF ?_ | refine pickT ?_ | refine pickF ?_ | refine yi_lss_t (by omega) ?_ | refine yi_lss_f (by omega) ?_ | refine yi_add64 (by omega) ?_ | refine yi_sub64 (by omega) ?_ | refine yi_eql_t (by omega) ?_ | refine yi_eql_f (by omega) ?_ | refine yi_neq_t (by omega) ?_ | refine yi_neq_f (by omega) ?_ | refine yi_gtr_t (by omega) ?_ | refine yi_gtr_f (by omega) ?_ | refine yi_leq_t (by omega) ?_ | refine yi_leq_f (by omega) ?_ | refine yi_geq_t (by omega) ?_ | refine yi_geq_f (by omega) ?_ | refine yi_xt0 ?_ | refine yi_xt1 ?_ | refine yi_xt2 ?_ | refine yi_xt3 ?_ | refine yi_T ?_ | refine yi_F ?_ | refine yi_not ?_ | refine yi_and ?_ | refine yi_or ?_ | refine yi_xor ?_ | refine yi_shr (by omega) (by decide) ?_ | refine yi_shl (by omega) (by decide) ?_ | refine yi_quo64 (by omega) ?_ | refine yi_rem64 (by omega) ?_ | refine yi_mul64 (by omega) ?_ | refine yi_neg ?_ | refine yi_un_xor32 ?_ | refine yi_add ?_ | refine yi_sub ?_ | refine yi_mul ?_ | refine yi_quo (by decide) ?_ | refine yi_rem (by decide) ?_)
    refine yldA agg27 (fun w' h => h.2.1) (by exact sz27) ?_
    (repeat with_reducible first | refine ynck ?_ | refine nck ?_ | refine cdT ?_ | refine cdF ?_ | refine gdY ?_ | refine gdFT ?_ | refine gdTF ?_ | refine gdU ?_ | refine gaY ?_ | refine gaFT ?_ | refine gaTF ?_ | refine pickT ?_ | refine pickF ?_ | refine yi_lss_t (by omega) ?_ | refine yi_lss_f (by omega) ?_ | refine yi_add64 (by omega) ?_ | refine yi_sub64 (by omega) ?_ | refine yi_eql_t (by omega) ?_ | refine yi_eql_f (by omega) ?_ | refine yi_neq_t (by omega) ?_ | refine yi_neq_f (by omega) ?_ | refine yi_gtr_t (by omega) ?_ | refine yi_gtr_f (by omega) ?_ | refine yi_leq_t (by omega) ?_ | refine yi_leq_f (by omega) ?_ | refine yi_geq_t (by omega) ?_ | refine yi_geq_f (by omega) ?_ | refine yi_xt0 ?_ | refine yi_xt1 ?_ | refine yi_xt2 ?_ | refine yi_xt3 ?_ | refine yi_T ?_ | refine yi_F ?_ | refine yi_not ?_ | refine yi_and ?_ | refine yi_or ?_ | refine yi_xor ?_ | refine yi_shr (by omega) (by decide) ?_ | refine yi_shl (by omega) (by decide) ?_ | refine yi_quo64 (by omega) ?_ | refine yi_rem64 (by omega) ?_ | refine yi_mul64 (by omega) ?_ | refine yi_neg ?_ | refine yi_un_xor32 ?_ | refine yi_add ?_ | refine yi_sub ?_ | refine yi_mul ?_ | refine yi_quo (by decide) ?_ | refine yi_rem (by decide) ?_)
    refine act ?_
    have hv9 : Vals w9.drew [p6] (toldQV (lookQ V l[k].cl l[k].no).2) := (ho9.below hdr).rd (l := toldQV (lookQ V l[k].cl l[k].no).2) (fun _ => rfl) fun x hx => rVal_of (hok x hx)
    refine (sameRep_spec _ _ _ _ _ _ w9.drew hv9 (keeps_Vals _ _ _ _ (below_then hb9 hdr) hv8) (RowsR.nil _ 0 (by decide)) (keeps_RowsR _ _ _ _ (below_then hb9 hdr) hq8)).mono ?_
    rintro _ w10 ⟨rfl, hb10⟩
    have hb910 := below_then hdr hb10
    have hK10 := hK9.below' hb910
    have hb10' := below_then hb9' hb910
    have hs10 := hb910.size
    have hb510 := below_then hb59 hb910
    have hla0 := hK5.lt
    refine ⟨_, ⟨hB79.below' hb910, hB9.below' hb910, hK10⟩, fun _ h => h, ?_⟩
    have e1 : ∀ w', (Blk w' w6.heap.size 27 ((toldQR (lookQ V l[k].cl l[k].no).2).cells p6 (.slice none 0 0)) ∧ Blk w' w8.heap.size 27 ((toldQR (lookQ V l[k].cl l[k].no).2).cells p8 q8) ∧ Blk w' gk 47 (kaF (l[k], p, q)).toArray) → w'.cell? ⟨gk, 1, none⟩ = some (.int .i64 l[k].cl) := fun w' h => h.2.2.cell 1
    have e2 : ∀ w', (Blk w' w6.heap.size 27 ((toldQR (lookQ V l[k].cl l[k].no).2).cells p6 (.slice none 0 0)) ∧ Blk w' w8.heap.size 27 ((toldQR (lookQ V l[k].cl l[k].no).2).cells p8 q8) ∧ Blk w' gk 47 (kaF (l[k], p, q)).toArray) → w'.cell? ⟨gk, 2, none⟩ = some (.int .i64 l[k].no) := fun w' h => h.2.2.cell 2
    have e3 : ∀ w', (Blk w' w6.heap.size 27 ((toldQR (lookQ V l[k].cl l[k].no).2).cells p6 (.slice none 0 0)) ∧ Blk w' w8.heap.size 27 ((toldQR (lookQ V l[k].cl l[k].no).2).cells p8 q8) ∧ Blk w' gk 47 (kaF (l[k], p, q)).toArray) → ∀ j u, (l[k].rep.cells p q).toList[j]? = some u → w'.cell? ((⟨gk, 3, none⟩ : Addr).add j) = some u := fun w' h j u hu => by
      rw [add0, h.2.2.cell]
      have : (kaF (l[k], p, q))[3 + j]? = some u := by rw [← hu, show 3 + j = j + 3 from by omega]; rfl
      simpa using this
    have sz : (Try.prog.info? 27).map (·.size) = some (l[k].rep.cells p q).toList.length := by rw [sz27]; rfl
    (repeat with_reducible first | refine yfd q1 (by decide) ?_ | refine yl1 one3 e1 ?_ | refine yfd q2 (by decide) ?_ | refine yl1 one3 e2 ?_ | refine yfd q3 (by decide) ?_ | refine ynck ?_ | refine nck ?_ | refine cdT ?_ | refine cdF ?_ | refine gdY ?_ | refine gdFT ?_ | refine gdTF ?_ | refine gdU ?_ | refine gaY ?_ | refine gaFT ?_ | refine gaTF ?_ | refine pickT ?_ | refine pickF ?_ | refine yi_lss_t (by omega) ?_ | refine yi_lss_f (by omega) ?_ | refine yi_add64 (by omega) ?_ | refine yi_sub64 (by omega) ?_ | refine yi_eql_t (by omega) ?_ | refine yi_eql_f (by omega) ?_ | refine yi_neq_t (by omega) ?_ | refine yi_neq_f (by omega) ?_ | refine yi_gtr_t (by omega) ?_ | refine yi_gtr_f (by omega) ?_ | refine yi_leq_t (by omega) ?_ | refine yi_leq_f (by omega) ?_ | refine yi_geq_t (by omega) ?_ | refine yi_geq_f (by omega) ?_ | refine yi_xt0 ?_ | refine yi_xt1 ?_ | refine yi_xt2 ?_ | refine yi_xt3 ?_ | refine yi_T ?_ | refine yi_F ?_ | refine yi_not ?_ | refine yi_and ?_ | refine yi_or ?_ | refine yi_xor ?_ | refine yi_shr (by omega) (by decide) ?_ | refine yi_shl (by omega) (by decide) ?_ | refine yi_quo64 (by omega) ?_ | refine yi_rem64 (by omega) ?_ | refine yi_mul64 (by omega) ?_ | refine yi_neg ?_ | refine yi_un_xor32 ?_ | refine yi_add ?_ | refine yi_sub ?_ | refine yi_mul ?_ | refine yi_quo (by decide) ?_ | refine yi_rem (by decide) ?_)
    refine yldR agg27 e3 sz ?_
    rw [Array.toArray_toList]
    (repeat with_reducible first | refine yfd q1 (by decide) ?_ | refine yl1 one3 e1 ?_ | refine yfd q2 (by decide) ?_ | refine yl1 one3 e2 ?_ | refine yfd q3 (by decide) ?_ | refine ynck ?_ | refine nck ?_ | refine cdT ?_ | refine cdF ?_ | refine gdY ?_ | refine gdFT ?_ | refine gdTF ?_ | refine gdU ?_ | refine gaY ?_ | refine gaFT ?_ | refine gaTF ?_ | refine pickT ?_ | refine pickF ?_ | refine yi_lss_t (by omega) ?_ | refine yi_lss_f (by omega) ?_ | refine yi_add64 (by omega) ?_ | refine yi_sub64 (by omega) ?_ | refine yi_eql_t (by omega) ?_ | refine yi_eql_f (by omega) ?_ | refine yi_neq_t (by omega) ?_ | refine yi_neq_f (by omega) ?_ | refine yi_gtr_t (by omega) ?_ | refine yi_gtr_f (by omega) ?_ | refine yi_leq_t (by omega) ?_ | refine yi_leq_f (by omega) ?_ | refine yi_geq_t (by omega) ?_ | refine yi_geq_f (by omega) ?_ | refine yi_xt0 ?_ | refine yi_xt1 ?_ | refine yi_xt2 ?_ | refine yi_xt3 ?_ | refine yi_T ?_ | refine yi_F ?_ | refine yi_not ?_ | refine yi_and ?_ | refine yi_or ?_ | refine yi_xor ?_ | refine yi_shr (by omega) (by decide) ?_ | refine yi_shl (by omega) (by decide) ?_ | refine yi_quo64 (by omega) ?_ | refine yi_rem64 (by omega) ?_ | refine yi_mul64 (by omega) ?_ | refine yi_neg ?_ | refine yi_un_xor32 ?_ | refine yi_add ?_ | refine yi_sub ?_ | refine yi_mul ?_ | refine yi_quo (by decide) ?_ | refine yi_rem (by decide) ?_)
    refine yldR agg27 e3 sz ?_
    rw [Array.toArray_toList]
    (repeat with_reducible first | refine ynck ?_ | refine nck ?_ | refine cdT ?_ | refine cdF ?_ | refine gdY ?_ | refine gdFT ?_ | refine gdTF ?_ | refine gdU ?_ | refine gaY ?_ | refine gaFT ?_ | refine gaTF ?_ | refine pickT ?_ | refine pickF ?_ | refine yi_lss_t (by omega) ?_ | refine yi_lss_f (by omega) ?_ | refine yi_add64 (by omega) ?_ | refine yi_sub64 (by omega) ?_ | refine yi_eql_t (by omega) ?_ | refine yi_eql_f (by omega) ?_ | refine yi_neq_t (by omega) ?_ | refine yi_neq_f (by omega) ?_ | refine yi_gtr_t (by omega) ?_ | refine yi_gtr_f (by omega) ?_ | refine yi_leq_t (by omega) ?_ | refine yi_leq_f (by omega) ?_ | refine yi_geq_t (by omega) ?_ | refine yi_geq_f (by omega) ?_ | refine yi_xt0 ?_ | refine yi_xt1 ?_ | refine yi_xt2 ?_ | refine yi_xt3 ?_ | refine yi_T ?_ | refine yi_F ?_ | refine yi_not ?_ | refine yi_and ?_ | refine yi_or ?_ | refine yi_xor ?_ | refine yi_shr (by omega) (by decide) ?_ | refine yi_shl (by omega) (by decide) ?_ | refine yi_quo64 (by omega) ?_ | refine yi_rem64 (by omega) ?_ | refine yi_mul64 (by omega) ?_ | refine yi_neg ?_ | refine yi_un_xor32 ?_ | refine yi_add ?_ | refine yi_sub ?_ | refine yi_mul ?_ | refine yi_quo (by decide) ?_ | refine yi_rem (by decide) ?_)
    have hcol5 := col_lt c5 w5.heap.size 0
    have hs59 := hb59.size
    have hs6 := hb6.size
    have hs7 := hb7.size
    have hs8 := hb8.size
    have ha10 : TabV 1 (col c5 w5.heap.size 0) w10 ga V k := (ha5'.re hcol5).below hb510
    have hm10 : RefV 2 (col c5 w5.heap.size 0) w10 gm V k := (hm5'.re hcol5).below hb510
    have hz10 : ∀ j, j < w.heap.size → col c5 w5.heap.size 0 j = 0 := fun j hj => by rw [hcol5 j (by omega), hz5 j hj]
    have hcg : col c5 w5.heap.size 0 gk = 0 := by rw [hcol5 gk hla0, hkz]
    have hc7 : col c5 w5.heap.size 0 w6.heap.size = 0 := col_ge _ _ _ hs6
    have hc9 : col c5 w5.heap.size 0 w8.heap.size = 0 := col_ge _ _ _ (by omega)
    have hB10 := hB79.below' hb910
    have hB910 := hB9.below' hb910
    generalize col c5 w5.heap.size 0 = c10 at *
    have hp10 := keeps_Vals _ _ _ _ hb10' hp
    have hq10 := keeps_RowsR _ _ _ _ hb10' hq
    refine act ?_
    refine (Keep_V l[k].cl l[k].no l[k].rep p q l[k].vs l[k].rows ha10 hp10 (hp.hue hz10 (by decide)) hq10 (by have := hla'.1; omega) (by omega)).mono ?_
    rintro _ w11 ⟨rfl, c11, hc11, ha11, hT11⟩
    have hb11 : Below w.heap.size w10 w11 := hT11.below (by omega) fun j hj => Dh0 (by decide) (hz10 j hj)
    have hb11' := hb10'.trans hb11
    have hm11 := hm10.on hT11 (by decide) (by decide) hc11
    have hB11 := hB10.turns hT11 (Dh0 (by decide) hc7)
    have hB911 := hB910.turns hT11 (Dh0 (by decide) hc9)
    have hK11 := hK10.turns hT11 (Dh0 (by decide) hcg)
    have hs11 := hT11.size
    refine ⟨_, ⟨hB11, hB911, hK11⟩, fun _ h => h, ?_⟩
    (repeat with_reducible first | refine ynck ?_ | refine nck ?_ | refine cdT ?_ | refine cdF ?_ | refine gdY ?_ | refine gdFT ?_ | refine gdTF ?_ | refine gdU ?_ | refine gaY ?_ | refine gaFT ?_ | refine gaTF ?_ | refine pickT ?_ | refine pickF ?_ | refine yi_lss_t (by omega) ?_ | refine yi_lss_f (by omega) ?_ | refine yi_add64 (by omega) ?_ | refine yi_sub64 (by omega) ?_ | refine yi_eql_t (by omega) ?_ | refine yi_eql_f (by omega) ?_ | refine yi_neq_t (by omega) ?_ | refine yi_neq_f (by omega) ?_ | refine yi_gtr_t (by omega) ?_ | refine yi_gtr_f (by omega) ?_ | refine yi_leq_t (by omega) ?_ | refine yi_leq_f (by omega) ?_ | refine yi_geq_t (by omega) ?_ | refine yi_geq_f (by omega) ?_ | refine yi_xt0 ?_ | refine yi_xt1 ?_ | refine yi_xt2 ?_ | refine yi_xt3 ?_ | refine yi_T ?_ | refine yi_F ?_ | refine yi_not ?_ | refine yi_and ?_ | refine yi_or ?_ | refine yi_xor ?_ | refine yi_shr (by omega) (by decide) ?_ | refine yi_shl (by omega) (by decide) ?_ | refine yi_quo64 (by omega) ?_ | refine yi_rem64 (by omega) ?_ | refine yi_mul64 (by omega) ?_ | refine yi_neg ?_ | refine yi_un_xor32 ?_ | refine yi_add ?_ | refine yi_sub ?_ | refine yi_mul ?_ | refine yi_quo (by decide) ?_ | refine yi_rem (by decide) ?_)
    refine act ?_
    refine (refKeep_V l[k].cl l[k].no l[k].rep p q l[k].vs l[k].rows hm11 (keeps_Vals _ _ _ _ hb11' hp) (keeps_RowsR _ _ _ _ hb11' hq) (by have := hla'.1; omega) (by omega)).mono ?_
    rintro _ w12 ⟨rfl, c12, hc12, hm12, hT12⟩
    have hz11 : ∀ j, j < w.heap.size → c11 j = 0 := fun j hj => by rw [hc11 j (by omega), hz10 j hj]
    have hb12 : Below w.heap.size w11 w12 := hT12.below (by omega) fun j hj => Dh0 (by decide) (hz11 j hj)
    have hl10 : ∀ j, j < w10.heap.size → c11 j = c10 j := hc11
    have hB12 := hB11.turns hT12 (Dh0 (by decide) (by rw [hc11 _ hB10.lt, hc7]))
    have hB912 := hB911.turns hT12 (Dh0 (by decide) (by rw [hc11 _ hB910.lt, hc9]))
    have hK12 := hK11.turns hT12 (Dh0 (by decide) (by rw [hc11 _ hK10.lt, hcg]))
    refine ⟨_, ⟨hB12, hB912, hK12⟩, fun _ h => h, ?_⟩
    (repeat with_reducible first | refine ynck ?_ | refine nck ?_ | refine cdT ?_ | refine cdF ?_ | refine gdY ?_ | refine gdFT ?_ | refine gdTF ?_ | refine gdU ?_ | refine gaY ?_ | refine gaFT ?_ | refine gaTF ?_ | refine pickT ?_ | refine pickF ?_ | refine yi_lss_t (by omega) ?_ | refine yi_lss_f (by omega) ?_ | refine yi_add64 (by omega) ?_ | refine yi_sub64 (by omega) ?_ | refine yi_eql_t (by omega) ?_ | refine yi_eql_f (by omega) ?_ | refine yi_neq_t (by omega) ?_ | refine yi_neq_f (by omega) ?_ | refine yi_gtr_t (by omega) ?_ | refine yi_gtr_f (by omega) ?_ | refine yi_leq_t (by omega) ?_ | refine yi_leq_f (by omega) ?_ | refine yi_geq_t (by omega) ?_ | refine yi_geq_f (by omega) ?_ | refine yi_xt0 ?_ | refine yi_xt1 ?_ | refine yi_xt2 ?_ | refine yi_xt3 ?_ | refine yi_T ?_ | refine yi_F ?_ | refine yi_not ?_ | refine yi_and ?_ | refine yi_or ?_ | refine yi_xor ?_ | refine yi_shr (by omega) (by decide) ?_ | refine yi_shl (by omega) (by decide) ?_ | refine yi_quo64 (by omega) ?_ | refine yi_rem64 (by omega) ?_ | refine yi_mul64 (by omega) ?_ | refine yi_neg ?_ | refine yi_un_xor32 ?_ | refine yi_add ?_ | refine yi_sub ?_ | refine yi_mul ?_ | refine yi_quo (by decide) ?_ | refine yi_rem (by decide) ?_)
    (repeat with_reducible first | refine nck ?_ | refine cdT ?_ | refine cdF ?_ | refine gdY ?_ | refine gdFT ?_ | refine gdTF ?_ | refine gdU ?_ | refine gaY ?_ | refine gaFT ?_ | refine gaTF ?_ | refine pickT ?_ | refine pickF ?_ | refine bi_lss_t (by omega) ?_ | refine bi_lss_f (by omega) ?_ | refine bi_add64 (by omega) ?_ | refine bi_sub64 (by omega) ?_ | refine bi_eql_t (by omega) ?_ | refine bi_eql_f (by omega) ?_ | refine bi_neq_t (by omega) ?_ | refine bi_neq_f (by omega) ?_ | refine bi_gtr_t (by omega) ?_ | refine bi_gtr_f (by omega) ?_ | refine bi_leq_t (by omega) ?_ | refine bi_leq_f (by omega) ?_ | refine bi_geq_t (by omega) ?_ | refine bi_geq_f (by omega) ?_ | refine bi_xt0 ?_ | refine bi_xt1 ?_ | refine bi_xt2 ?_ | refine bi_xt3 ?_ | refine bi_T ?_ | refine bi_F ?_ | refine bi_not ?_ | refine bi_and ?_ | refine bi_or ?_ | refine bi_xor ?_ | refine bi_shr (by omega) (by decide) ?_ | refine bi_shl (by omega) (by decide) ?_ | refine bi_quo64 (by omega) ?_ | refine bi_rem64 (by omega) ?_ | refine bi_mul64 (by omega) ?_ | refine bi_neg ?_ | refine bi_un_xor32 ?_ | refine bi_add ?_ | refine bi_sub ?_ | refine bi_mul ?_ | refine bi_quo (by decide) ?_ | refine bi_rem (by decide) ?_)
    exact hJ _ _ ⟨k + 1, c12, _, by omega, by simp, ha11.other hT12 (by decide) hc12, hm12, fun j hj => by rw [hc12 j (by omega), hz11 j hj], hb11'.trans hb12⟩ (by simp [intOf]; omega)
  · (repeat with_reducible first | refine nck ?_ | refine cdT ?_ | refine cdF ?_ | refine gdY ?_ | refine gdFT ?_ | refine gdTF ?_ | refine gdU ?_ | refine gaY ?_ | refine gaFT ?_ | refine gaTF ?_ | refine pickT ?_ | refine pickF ?_ | refine bi_lss_t (by omega) ?_ | refine bi_lss_f (by omega) ?_ | refine bi_add64 (by omega) ?_ | refine bi_sub64 (by omega) ?_ | refine bi_eql_t (by omega) ?_ | refine bi_eql_f (by omega) ?_ | refine bi_neq_t (by omega) ?_ | refine bi_neq_f (by omega) ?_ | refine bi_gtr_t (by omega) ?_ | refine bi_gtr_f (by omega) ?_ | refine bi_leq_t (by omega) ?_ | refine bi_leq_f (by omega) ?_ | refine bi_geq_t (by omega) ?_ | refine bi_geq_f (by omega) ?_ | refine bi_xt0 ?_ | refine bi_xt1 ?_ | refine bi_xt2 ?_ | refine bi_xt3 ?_ | refine bi_T ?_ | refine bi_F ?_ | refine bi_not ?_ | refine bi_and ?_ | refine bi_or ?_ | refine bi_xor ?_ | refine bi_shr (by omega) (by decide) ?_ | refine bi_shl (by omega) (by decide) ?_ | refine bi_quo64 (by omega) ?_ | refine bi_rem64 (by omega) ?_ | refine bi_mul64 (by omega) ?_ | refine bi_neg ?_ | refine bi_un_xor32 ?_ | refine bi_add ?_ | refine bi_sub ?_ | refine bi_mul ?_ | refine bi_quo (by decide) ?_ | refine bi_rem (by decide) ?_)
    refine (same_spec _ l ha hm (by omega) (keeps_Acts _ _ _ _ hb4 hv) (by omega)).mono ?_
    rintro _ w5 ⟨rfl, hb5⟩
    exact ⟨rfl, below_then hb4 hb5⟩
end Go.Proofs.Ytmnaggdhkggjhaa.E
