/- The bulk of a letter. -/
import Derived.Test.YthicbfopjakiiaaLetA
namespace Go.Proofs.Ythicbfopjakiiaa.E
open Go Go.RowKit
set_option linter.unusedSimpArgs false
set_option linter.unusedVariables false

theorem call93 : callable Try.prog 93 = true := by kernel_rfl
theorem z3 : (Try.prog.info? 3).bind (·.zero) = some (.int .i64 0) := by kernel_rfl
theorem s64 : (Try.prog.info? 64).map (·.size) = some 2 := sz64
/-- The bulk of a letter, as it is reckoned. -/
def bulkT (L : Let) : Nat := addB (addB (addB 0 L.s) L.t) L.body
def bulkP (n : Nat) (l : List (ByteArray × ByteArray × Unit)) : Nat := l.foldl (fun n p => addB (addB n p.1) p.2.1) n
def bulkI (n : Nat) (l : List (ByteArray × Int × Bool × Unit)) : Nat := l.foldl (fun n p => addB n p.1) n
def bulkL (L : Let) (ps : List (ByteArray × ByteArray × Unit)) (is : List (ByteArray × Int × Bool × Unit)) : Nat := bulkI (bulkP (bulkT L) ps) is
theorem foldl_take_succ {α β : Type} (f : β → α → β) (b : β) (l : List α) (k : Nat) (hk : k < l.length) : (l.take (k + 1)).foldl f b = f ((l.take k).foldl f b) l[k] := by
  rw [List.take_succ_eq_append_getElem hk, List.foldl_append]; rfl
theorem bulkP_le (n : Nat) (hn : n ≤ 131073) : ∀ l, bulkP n l ≤ 131073 := by
  intro l
  unfold bulkP
  induction l generalizing n with
  | nil => exact hn
  | cons p r ih => exact ih _ (addB_le _ _ (addB_le _ _ hn))
theorem bulkI_le (n : Nat) (hn : n ≤ 131073) : ∀ l, bulkI n l ≤ 131073 := by
  intro l
  unfold bulkI
  induction l generalizing n with
  | nil => exact hn
  | cons p r ih => exact ih _ (addB_le _ _ hn)
theorem bulkT_le (L : Let) : bulkT L ≤ 131073 := addB_le _ _ (addB_le _ _ (addB_le _ _ (by omega)))
/-- A row's element, at its place. -/
theorem rRow.at {α : Type} {s : Nat} {r : Rdr α} {w : World} {A : Option Addr} {n c : Nat} {l : List α} (h : rRow s r w [.slice A n c] l) (i : Nat) (hi : i < l.length) :
    ∃ a us, A = some a ∧ us.length = s ∧ (∀ j u, us[j]? = some u → w.cell? ((a.add (i * s)).add j) = some u) ∧ r w us l[i] := by
  obtain ⟨A', c', he, _, _, h⟩ := h
  simp only [List.cons.injEq, Value.slice.injEq] at he
  obtain ⟨⟨rfl, _, _⟩, _⟩ := he
  obtain ⟨a, us, h1, h2, h3, h4⟩ := h i l[i] (List.getElem?_eq_getElem hi)
  exact ⟨a, us, h1, h2, fun j u hu => by rw [Addr.add_add]; exact h3 j u hu, h4⟩
theorem rRow.slice {α : Type} {s : Nat} {r : Rdr α} {w : World} {v : Value} {l : List α} (h : rRow s r w [v] l) : ∃ A c, v = .slice A l.length c ∧ l.length ≤ c ∧ c ≤ 9223372036854775807 := by
  obtain ⟨A, c, he, h1, h2, _⟩ := h
  simp only [List.cons.injEq, and_true] at he
  exact ⟨A, c, he, h1, by simp only [maxLen] at h2; omega⟩

theorem bulk_spec (L : Let) (p q : Value) (ps : List (ByteArray × ByteArray × Unit)) (is : List (ByteArray × Int × Bool × Unit)) (w : World) (hp : Pairs w [p] ps) (hq : Intents w [q] is) :
    CallP Try.prog 87 #[.agg (L.cells p q)] (fun r w' => r = .int .i64 (bulkL L ps is) ∧ Below w.heap.size w w') w := by
  obtain ⟨A, cA, rfl, hcA, hmA⟩ := hp.slice
  obtain ⟨A', cA', rfl, hcA', hmA'⟩ := hq.slice
  refine ⟨S87.calls _ _ _ ?_⟩
  unfold S87
  refine bx ?_
  have hL0 : Blk (w.alloc (.cells (Value.agg (L.cells (.slice A ps.length cA) (.slice A' is.length cA'))).cells 58)) w.heap.size 58 (L.cells (.slice A ps.length cA) (.slice A' is.length cA')) := Blk.new w 58 _
  have ha := (Below.refl w.heap.size w).alloc (Nat.le_refl _) (.cells (Value.agg (L.cells (.slice A ps.length cA) (.slice A' is.length cA'))).cells 58)
  generalize w.alloc (.cells (Value.agg (L.cells (.slice A ps.length cA) (.slice A' is.length cA'))).cells 58) = w1 at *
  refine al z3 ?_
  have hN0 : Blk (w1.alloc (.cells (Value.int .i64 0).cells 3)) w1.heap.size 3 #[.int .i64 0] := Blk.new w1 3 _
  have ha2 := (Below.refl w1.heap.size w1).alloc (Nat.le_refl _) (.cells (Value.int .i64 0).cells 3)
  have hL1 := hL0.below' ha2
  have hgN : w.heap.size < w1.heap.size := hL0.lt
  generalize hgn : w1.heap.size = gn at *
  generalize w1.alloc (.cells (Value.int .i64 0).cells 3) = w2 at *
  have hb2 : Below w.heap.size w w2 := ha.trans (ha2.mono (by omega))
  refine st sz3 rfl (by rw [hN0.cell 0]; rfl) (hN0.frozen 0) ?_
  have hN1 := hN0.set_ 0 (.int .i64 0)
  have hL2 : Blk (w2.setCell ⟨gn, 0, none⟩ (.int .i64 0)) w.heap.size 58 (L.cells (.slice A ps.length cA) (.slice A' is.length cA')) := hL1.turns (Turns.setCell (F := fun k => k = gn) (p := ⟨gn, 0, none⟩) (Turns.refl _ w2) (.inl rfl) _) (by omega)
  have hb3 := hb2.setCell (p := ⟨gn, 0, none⟩) (by show w.heap.size ≤ gn; omega) (.int .i64 0)
  generalize w2.setCell ⟨gn, 0, none⟩ (.int .i64 0) = w3 at *
  refine mkf ?_
  refine (texts_spec w.heap.size w3).mono ?_
  rintro vt w4 ⟨hvo, hft, hb4⟩
  have hvt := hvo.rd
  have hL4 := hL2.below' hb4
  have hN4 := hN1.below' hb4
  have hb4' := below_then hb3 hb4
  have hs3 : gn < w3.heap.size := hN1.lt
  obtain ⟨At, ct, rfl, hct, _⟩ := hvt.slice
  clear hvo
  have hlen3 : (ptrs w.heap.size [7, 8, 13]).length = 3 := by simp [ptrs]
  rw [hlen3] at hvt hft ⊢
  have keepT : ∀ {wa wb : World}, Below w.heap.size w wa → Turns (fun k => k = gn) wa wb → Below w.heap.size w wb := fun h1 h2 => h1.trans (h2.below h1.size fun k hk he => by omega)
  refine ln und145 ?_
  refine LoopP.inv1 (fun i w' => ∃ k : Nat, k ≤ 3 ∧ i = .int .i64 k ∧ Blk w' gn 3 #[.int .i64 (([L.s, L.t, L.body].take k).foldl addB 0 : Nat)] ∧ Blk w' w.heap.size 58 (L.cells (.slice A ps.length cA) (.slice A' is.length cA')) ∧ Rd w' (.slice At 3 ct) (ptrs w.heap.size [7, 8, 13]) ∧ Below w.heap.size w w') (fun i _ => 3 - (intOf i).toNat)
    ⟨0, by omega, rfl, hN4, hL4, hvt, hb4'⟩ ?_
  rintro _ w5 ⟨k, hk, rfl, hN5, hL5, hv5, hb5⟩ J hJ
  dsimp only [List.headD_cons, List.tail_cons]
  refine bi_lss_c (fun h => ?_) (fun h => ?_)
  · have hk3 : k < 3 := by omega
    obtain ⟨a, rfl, hca⟩ := Rd.at hv5 k (by omega)
    have hsmall : ([L.s, L.t, L.body].take k).foldl addB 0 ≤ 131073 := by
      obtain rfl | rfl | rfl : k = 0 ∨ k = 1 ∨ k = 2 := by omega
      · simp
      · exact addB_le _ _ (Nat.zero_le _)
      · exact addB_le _ _ (addB_le _ _ (Nat.zero_le _))
    have hcell : w5.cell? ⟨w.heap.size, ([7, 8, 13] : List Nat)[k]'(by simpa using hk3), none⟩ = some (.string ([L.s, L.t, L.body][k]'(by simpa using hk3))) := by
      obtain rfl | rfl | rfl : k = 0 ∨ k = 1 ∨ k = 2 := by omega
      · exact hL5.cell 7
      · exact hL5.cell 8
      · exact hL5.cell 13
    have hca' : w5.cell? (a.add k) = some (.pointer (some ⟨w.heap.size, ([7, 8, 13] : List Nat)[k]'(by simpa using hk3), none⟩)) := by rw [hca]; simp only [ptrs, List.getElem_map]
    (repeat (first | (with_reducible refine ix1 und145 sz147 hk3 ?_) | (with_reducible refine ld one147 hca' ?_) | (with_reducible refine ld one9 hcell ?_) | (with_reducible refine nck ?_) | (with_reducible refine cdT ?_) | (with_reducible refine cdF ?_) | (with_reducible refine gdY ?_) | (with_reducible refine gdFT ?_) | (with_reducible refine gdTF ?_) | (with_reducible refine gdU ?_) | (with_reducible refine gaY ?_) | (with_reducible refine gaFT ?_) | (with_reducible refine gaTF ?_) | (with_reducible refine pickT ?_) | (with_reducible refine pickF ?_) | (with_reducible refine bi_lss_t (by omega) ?_) | (with_reducible refine bi_lss_f (by omega) ?_) | (with_reducible refine bi_add64 (by omega) ?_) | (with_reducible refine bi_sub64 (by omega) ?_) | (with_reducible refine bi_eql_t (by omega) ?_) | (with_reducible refine bi_eql_f (by omega) ?_) | (with_reducible refine bi_neq_t (by omega) ?_) | (with_reducible refine bi_neq_f (by omega) ?_) | (with_reducible refine bi_gtr_t (by omega) ?_) | (with_reducible refine bi_gtr_f (by omega) ?_) | (with_reducible refine bi_leq_t (by omega) ?_) | (with_reducible refine bi_leq_f (by omega) ?_) | (with_reducible refine bi_geq_t (by omega) ?_) | (with_reducible refine bi_geq_f (by omega) ?_) | (with_reducible refine bi_xt0 ?_) | (with_reducible refine bi_xt1 ?_) | (with_reducible refine bi_xt2 ?_) | (with_reducible refine bi_xt3 ?_) | (with_reducible refine bi_T ?_) | (with_reducible refine bi_F ?_) | (with_reducible refine bi_not ?_) | (with_reducible refine bi_and ?_) | (with_reducible refine bi_or ?_) | (with_reducible refine bi_xor ?_) | (with_reducible refine bi_shr (by omega) (by decide) ?_) | (with_reducible refine bi_shl (by omega) (by decide) ?_) | (with_reducible refine bi_quo64 (by omega) ?_) | (with_reducible refine bi_rem64 (by omega) ?_) | (with_reducible refine bi_mul64 (by omega) ?_) | (with_reducible refine bi_neg ?_) | (with_reducible refine bi_un_xor32 ?_) | (with_reducible refine bi_add ?_) | (with_reducible refine bi_sub ?_) | (with_reducible refine bi_mul ?_) | (with_reducible refine bi_quo (by decide) ?_) | (with_reducible refine bi_rem (by decide) ?_)))
    refine cvl call93 ?_
    refine (bulk1_spec gn _ _ w5 hN5 hsmall).mono ?_
    rintro _ w6 ⟨hN6, hT6⟩
    have hL6 := hL5.turns hT6 (by omega)
    have hv6 := Rd.turns hv5 hT6 (.inr fun b hb he => by have := hft b hb; omega)
    have hb6 := keepT hb5 hT6
    (repeat (first | (with_reducible refine nck ?_) | (with_reducible refine cdT ?_) | (with_reducible refine cdF ?_) | (with_reducible refine gdY ?_) | (with_reducible refine gdFT ?_) | (with_reducible refine gdTF ?_) | (with_reducible refine gdU ?_) | (with_reducible refine gaY ?_) | (with_reducible refine gaFT ?_) | (with_reducible refine gaTF ?_) | (with_reducible refine pickT ?_) | (with_reducible refine pickF ?_) | (with_reducible refine bi_lss_t (by omega) ?_) | (with_reducible refine bi_lss_f (by omega) ?_) | (with_reducible refine bi_add64 (by omega) ?_) | (with_reducible refine bi_sub64 (by omega) ?_) | (with_reducible refine bi_eql_t (by omega) ?_) | (with_reducible refine bi_eql_f (by omega) ?_) | (with_reducible refine bi_neq_t (by omega) ?_) | (with_reducible refine bi_neq_f (by omega) ?_) | (with_reducible refine bi_gtr_t (by omega) ?_) | (with_reducible refine bi_gtr_f (by omega) ?_) | (with_reducible refine bi_leq_t (by omega) ?_) | (with_reducible refine bi_leq_f (by omega) ?_) | (with_reducible refine bi_geq_t (by omega) ?_) | (with_reducible refine bi_geq_f (by omega) ?_) | (with_reducible refine bi_xt0 ?_) | (with_reducible refine bi_xt1 ?_) | (with_reducible refine bi_xt2 ?_) | (with_reducible refine bi_xt3 ?_) | (with_reducible refine bi_T ?_) | (with_reducible refine bi_F ?_) | (with_reducible refine bi_not ?_) | (with_reducible refine bi_and ?_) | (with_reducible refine bi_or ?_) | (with_reducible refine bi_xor ?_) | (with_reducible refine bi_shr (by omega) (by decide) ?_) | (with_reducible refine bi_shl (by omega) (by decide) ?_) | (with_reducible refine bi_quo64 (by omega) ?_) | (with_reducible refine bi_rem64 (by omega) ?_) | (with_reducible refine bi_mul64 (by omega) ?_) | (with_reducible refine bi_neg ?_) | (with_reducible refine bi_un_xor32 ?_) | (with_reducible refine bi_add ?_) | (with_reducible refine bi_sub ?_) | (with_reducible refine bi_mul ?_) | (with_reducible refine bi_quo (by decide) ?_) | (with_reducible refine bi_rem (by decide) ?_)))
    refine hJ _ _ ⟨k + 1, by omega, by simp, ?_, hL6, hv6, hb6⟩ (by simp [intOf]; omega)
    rw [foldl_take_succ _ _ _ k (by simpa using hk3)]
    exact hN6
  have hk3 : k = 3 := by omega
  subst hk3
  clear hJ
  have hT0 : ([L.s, L.t, L.body].take 3).foldl addB 0 = bulkT L := rfl
  rw [hT0] at hN5
  have c9 : w5.cell? ⟨w.heap.size, 9, none⟩ = some (.slice A ps.length cA) := hL5.cell 9
  (repeat (first | (with_reducible refine fd l9 (by decide) ?_) | (with_reducible refine ld one55 c9 ?_) | (with_reducible refine nck ?_) | (with_reducible refine cdT ?_) | (with_reducible refine cdF ?_) | (with_reducible refine gdY ?_) | (with_reducible refine gdFT ?_) | (with_reducible refine gdTF ?_) | (with_reducible refine gdU ?_) | (with_reducible refine gaY ?_) | (with_reducible refine gaFT ?_) | (with_reducible refine gaTF ?_) | (with_reducible refine pickT ?_) | (with_reducible refine pickF ?_) | (with_reducible refine bi_lss_t (by omega) ?_) | (with_reducible refine bi_lss_f (by omega) ?_) | (with_reducible refine bi_add64 (by omega) ?_) | (with_reducible refine bi_sub64 (by omega) ?_) | (with_reducible refine bi_eql_t (by omega) ?_) | (with_reducible refine bi_eql_f (by omega) ?_) | (with_reducible refine bi_neq_t (by omega) ?_) | (with_reducible refine bi_neq_f (by omega) ?_) | (with_reducible refine bi_gtr_t (by omega) ?_) | (with_reducible refine bi_gtr_f (by omega) ?_) | (with_reducible refine bi_leq_t (by omega) ?_) | (with_reducible refine bi_leq_f (by omega) ?_) | (with_reducible refine bi_geq_t (by omega) ?_) | (with_reducible refine bi_geq_f (by omega) ?_) | (with_reducible refine bi_xt0 ?_) | (with_reducible refine bi_xt1 ?_) | (with_reducible refine bi_xt2 ?_) | (with_reducible refine bi_xt3 ?_) | (with_reducible refine bi_T ?_) | (with_reducible refine bi_F ?_) | (with_reducible refine bi_not ?_) | (with_reducible refine bi_and ?_) | (with_reducible refine bi_or ?_) | (with_reducible refine bi_xor ?_) | (with_reducible refine bi_shr (by omega) (by decide) ?_) | (with_reducible refine bi_shl (by omega) (by decide) ?_) | (with_reducible refine bi_quo64 (by omega) ?_) | (with_reducible refine bi_rem64 (by omega) ?_) | (with_reducible refine bi_mul64 (by omega) ?_) | (with_reducible refine bi_neg ?_) | (with_reducible refine bi_un_xor32 ?_) | (with_reducible refine bi_add ?_) | (with_reducible refine bi_sub ?_) | (with_reducible refine bi_mul ?_) | (with_reducible refine bi_quo (by decide) ?_) | (with_reducible refine bi_rem (by decide) ?_)))
  refine ln und55 ?_
  refine LoopP.inv1 (fun i w' => ∃ k : Nat, k ≤ ps.length ∧ i = .int .i64 k ∧ Blk w' gn 3 #[.int .i64 (bulkP (bulkT L) (ps.take k) : Nat)] ∧ Blk w' w.heap.size 58 (L.cells (.slice A ps.length cA) (.slice A' is.length cA')) ∧ Below w.heap.size w w') (fun i _ => ps.length - (intOf i).toNat)
    ⟨0, by omega, rfl, hN5, hL5, hb5⟩ ?_
  rintro _ w6 ⟨k, hk, rfl, hN6, hL6, hb6⟩ J hJ
  dsimp only [List.headD_cons, List.tail_cons]
  refine bi_lss_c (fun h => ?_) (fun h => ?_)
  · have hkp : k < ps.length := by omega
    obtain ⟨a, us, rfl, hus, hcell, hrd⟩ := rRow.at (keeps_Pairs _ _ _ _ hb6 hp) k hkp
    obtain ⟨rfl, hz1, hz2⟩ := pair_cells hrd
    have hsm := bulkP_le (bulkT L) (bulkT_le L) (ps.take k)
    (repeat (first | (with_reducible refine nck ?_) | (with_reducible refine cdT ?_) | (with_reducible refine cdF ?_) | (with_reducible refine gdY ?_) | (with_reducible refine gdFT ?_) | (with_reducible refine gdTF ?_) | (with_reducible refine gdU ?_) | (with_reducible refine gaY ?_) | (with_reducible refine gaFT ?_) | (with_reducible refine gaTF ?_) | (with_reducible refine pickT ?_) | (with_reducible refine pickF ?_) | (with_reducible refine bi_lss_t (by omega) ?_) | (with_reducible refine bi_lss_f (by omega) ?_) | (with_reducible refine bi_add64 (by omega) ?_) | (with_reducible refine bi_sub64 (by omega) ?_) | (with_reducible refine bi_eql_t (by omega) ?_) | (with_reducible refine bi_eql_f (by omega) ?_) | (with_reducible refine bi_neq_t (by omega) ?_) | (with_reducible refine bi_neq_f (by omega) ?_) | (with_reducible refine bi_gtr_t (by omega) ?_) | (with_reducible refine bi_gtr_f (by omega) ?_) | (with_reducible refine bi_leq_t (by omega) ?_) | (with_reducible refine bi_leq_f (by omega) ?_) | (with_reducible refine bi_geq_t (by omega) ?_) | (with_reducible refine bi_geq_f (by omega) ?_) | (with_reducible refine bi_xt0 ?_) | (with_reducible refine bi_xt1 ?_) | (with_reducible refine bi_xt2 ?_) | (with_reducible refine bi_xt3 ?_) | (with_reducible refine bi_T ?_) | (with_reducible refine bi_F ?_) | (with_reducible refine bi_not ?_) | (with_reducible refine bi_and ?_) | (with_reducible refine bi_or ?_) | (with_reducible refine bi_xor ?_) | (with_reducible refine bi_shr (by omega) (by decide) ?_) | (with_reducible refine bi_shl (by omega) (by decide) ?_) | (with_reducible refine bi_quo64 (by omega) ?_) | (with_reducible refine bi_rem64 (by omega) ?_) | (with_reducible refine bi_mul64 (by omega) ?_) | (with_reducible refine bi_neg ?_) | (with_reducible refine bi_un_xor32 ?_) | (with_reducible refine bi_add ?_) | (with_reducible refine bi_sub ?_) | (with_reducible refine bi_mul ?_) | (with_reducible refine bi_quo (by decide) ?_) | (with_reducible refine bi_rem (by decide) ?_)))
    refine ix und55 sz64 (by omega) (by omega) ?_
    rw [Int.toNat_natCast]
    refine ldR agg64 hcell (by rw [sz64]; rfl) ?_
    refine al z64 ?_
    have hV0 : Blk (w6.alloc (.cells (Value.agg #[.string ⟨#[]⟩, .string ⟨#[]⟩]).cells 64)) w6.heap.size 64 #[.string ⟨#[]⟩, .string ⟨#[]⟩] := Blk.new w6 64 _
    have hav := (Below.refl w6.heap.size w6).alloc (Nat.le_refl _) (.cells (Value.agg #[.string ⟨#[]⟩, .string ⟨#[]⟩]).cells 64)
    refine stA hV0 (by exact sz64) (by rfl) (by simp [Value.oneCell']) ?_
    have hV := hV0.row #[.string ps[k].1, .string ps[k].2.1]
    have hb7 := below_setRow hav (Nat.le_refl _) #[.string ps[k].1, .string ps[k].2.1]
    rw [show [Value.string ps[k].1, .string ps[k].2.1].toArray = #[.string ps[k].1, .string ps[k].2.1] from rfl]
    generalize (w6.alloc (.cells (Value.agg #[.string ⟨#[]⟩, .string ⟨#[]⟩]).cells 64)).setRow w6.heap.size #[.string ps[k].1, .string ps[k].2.1] = w7 at *
    have hN7 := hN6.below' hb7
    have hL7 := hL6.below' hb7
    have hb7' := below_then hb6 hb7
    have hg6 := hN6.lt
    have v0 : w7.cell? ⟨w6.heap.size, 0, none⟩ = some (.string ps[k].1) := hV.cell 0
    (repeat (first | (with_reducible refine fd p0' (by decide) ?_) | (with_reducible refine ld one9 v0 ?_) | (with_reducible refine nck ?_) | (with_reducible refine cdT ?_) | (with_reducible refine cdF ?_) | (with_reducible refine gdY ?_) | (with_reducible refine gdFT ?_) | (with_reducible refine gdTF ?_) | (with_reducible refine gdU ?_) | (with_reducible refine gaY ?_) | (with_reducible refine gaFT ?_) | (with_reducible refine gaTF ?_) | (with_reducible refine pickT ?_) | (with_reducible refine pickF ?_) | (with_reducible refine bi_lss_t (by omega) ?_) | (with_reducible refine bi_lss_f (by omega) ?_) | (with_reducible refine bi_add64 (by omega) ?_) | (with_reducible refine bi_sub64 (by omega) ?_) | (with_reducible refine bi_eql_t (by omega) ?_) | (with_reducible refine bi_eql_f (by omega) ?_) | (with_reducible refine bi_neq_t (by omega) ?_) | (with_reducible refine bi_neq_f (by omega) ?_) | (with_reducible refine bi_gtr_t (by omega) ?_) | (with_reducible refine bi_gtr_f (by omega) ?_) | (with_reducible refine bi_leq_t (by omega) ?_) | (with_reducible refine bi_leq_f (by omega) ?_) | (with_reducible refine bi_geq_t (by omega) ?_) | (with_reducible refine bi_geq_f (by omega) ?_) | (with_reducible refine bi_xt0 ?_) | (with_reducible refine bi_xt1 ?_) | (with_reducible refine bi_xt2 ?_) | (with_reducible refine bi_xt3 ?_) | (with_reducible refine bi_T ?_) | (with_reducible refine bi_F ?_) | (with_reducible refine bi_not ?_) | (with_reducible refine bi_and ?_) | (with_reducible refine bi_or ?_) | (with_reducible refine bi_xor ?_) | (with_reducible refine bi_shr (by omega) (by decide) ?_) | (with_reducible refine bi_shl (by omega) (by decide) ?_) | (with_reducible refine bi_quo64 (by omega) ?_) | (with_reducible refine bi_rem64 (by omega) ?_) | (with_reducible refine bi_mul64 (by omega) ?_) | (with_reducible refine bi_neg ?_) | (with_reducible refine bi_un_xor32 ?_) | (with_reducible refine bi_add ?_) | (with_reducible refine bi_sub ?_) | (with_reducible refine bi_mul ?_) | (with_reducible refine bi_quo (by decide) ?_) | (with_reducible refine bi_rem (by decide) ?_)))
    refine cvl call93 ?_
    refine (bulk1_spec gn _ _ w7 hN7 hsm).mono ?_
    rintro _ w8 ⟨hN8, hT8⟩
    have hL8 := hL7.turns hT8 (by omega)
    have hV8 := hV.turns hT8 (by omega)
    have hb8 := keepT hb7' hT8
    have v1 : w8.cell? ⟨w6.heap.size, 1, none⟩ = some (.string ps[k].2.1) := hV8.cell 1
    (repeat (first | (with_reducible refine fd p1' (by decide) ?_) | (with_reducible refine ld one9 v1 ?_) | (with_reducible refine nck ?_) | (with_reducible refine cdT ?_) | (with_reducible refine cdF ?_) | (with_reducible refine gdY ?_) | (with_reducible refine gdFT ?_) | (with_reducible refine gdTF ?_) | (with_reducible refine gdU ?_) | (with_reducible refine gaY ?_) | (with_reducible refine gaFT ?_) | (with_reducible refine gaTF ?_) | (with_reducible refine pickT ?_) | (with_reducible refine pickF ?_) | (with_reducible refine bi_lss_t (by omega) ?_) | (with_reducible refine bi_lss_f (by omega) ?_) | (with_reducible refine bi_add64 (by omega) ?_) | (with_reducible refine bi_sub64 (by omega) ?_) | (with_reducible refine bi_eql_t (by omega) ?_) | (with_reducible refine bi_eql_f (by omega) ?_) | (with_reducible refine bi_neq_t (by omega) ?_) | (with_reducible refine bi_neq_f (by omega) ?_) | (with_reducible refine bi_gtr_t (by omega) ?_) | (with_reducible refine bi_gtr_f (by omega) ?_) | (with_reducible refine bi_leq_t (by omega) ?_) | (with_reducible refine bi_leq_f (by omega) ?_) | (with_reducible refine bi_geq_t (by omega) ?_) | (with_reducible refine bi_geq_f (by omega) ?_) | (with_reducible refine bi_xt0 ?_) | (with_reducible refine bi_xt1 ?_) | (with_reducible refine bi_xt2 ?_) | (with_reducible refine bi_xt3 ?_) | (with_reducible refine bi_T ?_) | (with_reducible refine bi_F ?_) | (with_reducible refine bi_not ?_) | (with_reducible refine bi_and ?_) | (with_reducible refine bi_or ?_) | (with_reducible refine bi_xor ?_) | (with_reducible refine bi_shr (by omega) (by decide) ?_) | (with_reducible refine bi_shl (by omega) (by decide) ?_) | (with_reducible refine bi_quo64 (by omega) ?_) | (with_reducible refine bi_rem64 (by omega) ?_) | (with_reducible refine bi_mul64 (by omega) ?_) | (with_reducible refine bi_neg ?_) | (with_reducible refine bi_un_xor32 ?_) | (with_reducible refine bi_add ?_) | (with_reducible refine bi_sub ?_) | (with_reducible refine bi_mul ?_) | (with_reducible refine bi_quo (by decide) ?_) | (with_reducible refine bi_rem (by decide) ?_)))
    refine cvl call93 ?_
    refine (bulk1_spec gn _ _ w8 hN8 (addB_le _ _ hsm)).mono ?_
    rintro _ w9 ⟨hN9, hT9⟩
    have hL9 := hL8.turns hT9 (by omega)
    have hb9 := keepT hb8 hT9
    (repeat (first | (with_reducible refine nck ?_) | (with_reducible refine cdT ?_) | (with_reducible refine cdF ?_) | (with_reducible refine gdY ?_) | (with_reducible refine gdFT ?_) | (with_reducible refine gdTF ?_) | (with_reducible refine gdU ?_) | (with_reducible refine gaY ?_) | (with_reducible refine gaFT ?_) | (with_reducible refine gaTF ?_) | (with_reducible refine pickT ?_) | (with_reducible refine pickF ?_) | (with_reducible refine bi_lss_t (by omega) ?_) | (with_reducible refine bi_lss_f (by omega) ?_) | (with_reducible refine bi_add64 (by omega) ?_) | (with_reducible refine bi_sub64 (by omega) ?_) | (with_reducible refine bi_eql_t (by omega) ?_) | (with_reducible refine bi_eql_f (by omega) ?_) | (with_reducible refine bi_neq_t (by omega) ?_) | (with_reducible refine bi_neq_f (by omega) ?_) | (with_reducible refine bi_gtr_t (by omega) ?_) | (with_reducible refine bi_gtr_f (by omega) ?_) | (with_reducible refine bi_leq_t (by omega) ?_) | (with_reducible refine bi_leq_f (by omega) ?_) | (with_reducible refine bi_geq_t (by omega) ?_) | (with_reducible refine bi_geq_f (by omega) ?_) | (with_reducible refine bi_xt0 ?_) | (with_reducible refine bi_xt1 ?_) | (with_reducible refine bi_xt2 ?_) | (with_reducible refine bi_xt3 ?_) | (with_reducible refine bi_T ?_) | (with_reducible refine bi_F ?_) | (with_reducible refine bi_not ?_) | (with_reducible refine bi_and ?_) | (with_reducible refine bi_or ?_) | (with_reducible refine bi_xor ?_) | (with_reducible refine bi_shr (by omega) (by decide) ?_) | (with_reducible refine bi_shl (by omega) (by decide) ?_) | (with_reducible refine bi_quo64 (by omega) ?_) | (with_reducible refine bi_rem64 (by omega) ?_) | (with_reducible refine bi_mul64 (by omega) ?_) | (with_reducible refine bi_neg ?_) | (with_reducible refine bi_un_xor32 ?_) | (with_reducible refine bi_add ?_) | (with_reducible refine bi_sub ?_) | (with_reducible refine bi_mul ?_) | (with_reducible refine bi_quo (by decide) ?_) | (with_reducible refine bi_rem (by decide) ?_)))
    refine hJ _ _ ⟨k + 1, by omega, by simp, ?_, hL9, hb9⟩ (by simp [intOf]; omega)
    rw [bulkP, foldl_take_succ _ _ _ k hkp]
    exact hN9
  have hkp : k = ps.length := by omega
  subst hkp
  clear hJ
  rw [List.take_length] at hN6
  have c10 : w6.cell? ⟨w.heap.size, 10, none⟩ = some (.slice A' is.length cA') := hL6.cell 10
  (repeat (first | (with_reducible refine fd l10 (by decide) ?_) | (with_reducible refine ld one56 c10 ?_) | (with_reducible refine nck ?_) | (with_reducible refine cdT ?_) | (with_reducible refine cdF ?_) | (with_reducible refine gdY ?_) | (with_reducible refine gdFT ?_) | (with_reducible refine gdTF ?_) | (with_reducible refine gdU ?_) | (with_reducible refine gaY ?_) | (with_reducible refine gaFT ?_) | (with_reducible refine gaTF ?_) | (with_reducible refine pickT ?_) | (with_reducible refine pickF ?_) | (with_reducible refine bi_lss_t (by omega) ?_) | (with_reducible refine bi_lss_f (by omega) ?_) | (with_reducible refine bi_add64 (by omega) ?_) | (with_reducible refine bi_sub64 (by omega) ?_) | (with_reducible refine bi_eql_t (by omega) ?_) | (with_reducible refine bi_eql_f (by omega) ?_) | (with_reducible refine bi_neq_t (by omega) ?_) | (with_reducible refine bi_neq_f (by omega) ?_) | (with_reducible refine bi_gtr_t (by omega) ?_) | (with_reducible refine bi_gtr_f (by omega) ?_) | (with_reducible refine bi_leq_t (by omega) ?_) | (with_reducible refine bi_leq_f (by omega) ?_) | (with_reducible refine bi_geq_t (by omega) ?_) | (with_reducible refine bi_geq_f (by omega) ?_) | (with_reducible refine bi_xt0 ?_) | (with_reducible refine bi_xt1 ?_) | (with_reducible refine bi_xt2 ?_) | (with_reducible refine bi_xt3 ?_) | (with_reducible refine bi_T ?_) | (with_reducible refine bi_F ?_) | (with_reducible refine bi_not ?_) | (with_reducible refine bi_and ?_) | (with_reducible refine bi_or ?_) | (with_reducible refine bi_xor ?_) | (with_reducible refine bi_shr (by omega) (by decide) ?_) | (with_reducible refine bi_shl (by omega) (by decide) ?_) | (with_reducible refine bi_quo64 (by omega) ?_) | (with_reducible refine bi_rem64 (by omega) ?_) | (with_reducible refine bi_mul64 (by omega) ?_) | (with_reducible refine bi_neg ?_) | (with_reducible refine bi_un_xor32 ?_) | (with_reducible refine bi_add ?_) | (with_reducible refine bi_sub ?_) | (with_reducible refine bi_mul ?_) | (with_reducible refine bi_quo (by decide) ?_) | (with_reducible refine bi_rem (by decide) ?_)))
  refine ln und56 ?_
  refine LoopP.inv1 (fun i w' => ∃ k : Nat, k ≤ is.length ∧ i = .int .i64 k ∧ Blk w' gn 3 #[.int .i64 (bulkI (bulkP (bulkT L) ps) (is.take k) : Nat)] ∧ Blk w' w.heap.size 58 (L.cells (.slice A ps.length cA) (.slice A' is.length cA')) ∧ Below w.heap.size w w') (fun i _ => is.length - (intOf i).toNat)
    ⟨0, by omega, rfl, hN6, hL6, hb6⟩ ?_
  rintro _ w7 ⟨k, hk, rfl, hN7, hL7, hb7⟩ J hJ
  dsimp only [List.headD_cons, List.tail_cons]
  refine bi_lss_c (fun h => ?_) (fun h => ?_)
  · have hkp : k < is.length := by omega
    obtain ⟨a, us, rfl, hus, hcell, hrd⟩ := rRow.at (keeps_Intents _ _ _ _ hb7 hq) k hkp
    obtain ⟨rfl, hz1⟩ := intent_cells hrd
    have hsm := bulkI_le _ (bulkP_le (bulkT L) (bulkT_le L) ps) (is.take k)
    (repeat (first | (with_reducible refine nck ?_) | (with_reducible refine cdT ?_) | (with_reducible refine cdF ?_) | (with_reducible refine gdY ?_) | (with_reducible refine gdFT ?_) | (with_reducible refine gdTF ?_) | (with_reducible refine gdU ?_) | (with_reducible refine gaY ?_) | (with_reducible refine gaFT ?_) | (with_reducible refine gaTF ?_) | (with_reducible refine pickT ?_) | (with_reducible refine pickF ?_) | (with_reducible refine bi_lss_t (by omega) ?_) | (with_reducible refine bi_lss_f (by omega) ?_) | (with_reducible refine bi_add64 (by omega) ?_) | (with_reducible refine bi_sub64 (by omega) ?_) | (with_reducible refine bi_eql_t (by omega) ?_) | (with_reducible refine bi_eql_f (by omega) ?_) | (with_reducible refine bi_neq_t (by omega) ?_) | (with_reducible refine bi_neq_f (by omega) ?_) | (with_reducible refine bi_gtr_t (by omega) ?_) | (with_reducible refine bi_gtr_f (by omega) ?_) | (with_reducible refine bi_leq_t (by omega) ?_) | (with_reducible refine bi_leq_f (by omega) ?_) | (with_reducible refine bi_geq_t (by omega) ?_) | (with_reducible refine bi_geq_f (by omega) ?_) | (with_reducible refine bi_xt0 ?_) | (with_reducible refine bi_xt1 ?_) | (with_reducible refine bi_xt2 ?_) | (with_reducible refine bi_xt3 ?_) | (with_reducible refine bi_T ?_) | (with_reducible refine bi_F ?_) | (with_reducible refine bi_not ?_) | (with_reducible refine bi_and ?_) | (with_reducible refine bi_or ?_) | (with_reducible refine bi_xor ?_) | (with_reducible refine bi_shr (by omega) (by decide) ?_) | (with_reducible refine bi_shl (by omega) (by decide) ?_) | (with_reducible refine bi_quo64 (by omega) ?_) | (with_reducible refine bi_rem64 (by omega) ?_) | (with_reducible refine bi_mul64 (by omega) ?_) | (with_reducible refine bi_neg ?_) | (with_reducible refine bi_un_xor32 ?_) | (with_reducible refine bi_add ?_) | (with_reducible refine bi_sub ?_) | (with_reducible refine bi_mul ?_) | (with_reducible refine bi_quo (by decide) ?_) | (with_reducible refine bi_rem (by decide) ?_)))
    refine ix und56 sz68 (by omega) (by omega) ?_
    rw [Int.toNat_natCast]
    refine ldR agg68 hcell (by rw [sz68]; rfl) ?_
    refine al z68 ?_
    have hV0 : Blk (w7.alloc (.cells (Value.agg #[.string ⟨#[]⟩, .int .i64 0, .bool false]).cells 68)) w7.heap.size 68 #[.string ⟨#[]⟩, .int .i64 0, .bool false] := Blk.new w7 68 _
    have hav := (Below.refl w7.heap.size w7).alloc (Nat.le_refl _) (.cells (Value.agg #[.string ⟨#[]⟩, .int .i64 0, .bool false]).cells 68)
    refine stA hV0 (by exact sz68) (by rfl) (by simp [Value.oneCell']) ?_
    have hV := hV0.row #[.string is[k].1, .int .i64 is[k].2.1, .bool is[k].2.2.1]
    have hb8 := below_setRow hav (Nat.le_refl _) #[.string is[k].1, .int .i64 is[k].2.1, .bool is[k].2.2.1]
    rw [show [Value.string is[k].1, .int .i64 is[k].2.1, .bool is[k].2.2.1].toArray = #[.string is[k].1, .int .i64 is[k].2.1, .bool is[k].2.2.1] from rfl]
    generalize (w7.alloc (.cells (Value.agg #[.string ⟨#[]⟩, .int .i64 0, .bool false]).cells 68)).setRow w7.heap.size #[.string is[k].1, .int .i64 is[k].2.1, .bool is[k].2.2.1] = w8 at *
    have hN8 := hN7.below' hb8
    have hL8 := hL7.below' hb8
    have hb8' := below_then hb7 hb8
    have v0 : w8.cell? ⟨w7.heap.size, 0, none⟩ = some (.string is[k].1) := hV.cell 0
    (repeat (first | (with_reducible refine fd q0' (by decide) ?_) | (with_reducible refine ld one9 v0 ?_) | (with_reducible refine nck ?_) | (with_reducible refine cdT ?_) | (with_reducible refine cdF ?_) | (with_reducible refine gdY ?_) | (with_reducible refine gdFT ?_) | (with_reducible refine gdTF ?_) | (with_reducible refine gdU ?_) | (with_reducible refine gaY ?_) | (with_reducible refine gaFT ?_) | (with_reducible refine gaTF ?_) | (with_reducible refine pickT ?_) | (with_reducible refine pickF ?_) | (with_reducible refine bi_lss_t (by omega) ?_) | (with_reducible refine bi_lss_f (by omega) ?_) | (with_reducible refine bi_add64 (by omega) ?_) | (with_reducible refine bi_sub64 (by omega) ?_) | (with_reducible refine bi_eql_t (by omega) ?_) | (with_reducible refine bi_eql_f (by omega) ?_) | (with_reducible refine bi_neq_t (by omega) ?_) | (with_reducible refine bi_neq_f (by omega) ?_) | (with_reducible refine bi_gtr_t (by omega) ?_) | (with_reducible refine bi_gtr_f (by omega) ?_) | (with_reducible refine bi_leq_t (by omega) ?_) | (with_reducible refine bi_leq_f (by omega) ?_) | (with_reducible refine bi_geq_t (by omega) ?_) | (with_reducible refine bi_geq_f (by omega) ?_) | (with_reducible refine bi_xt0 ?_) | (with_reducible refine bi_xt1 ?_) | (with_reducible refine bi_xt2 ?_) | (with_reducible refine bi_xt3 ?_) | (with_reducible refine bi_T ?_) | (with_reducible refine bi_F ?_) | (with_reducible refine bi_not ?_) | (with_reducible refine bi_and ?_) | (with_reducible refine bi_or ?_) | (with_reducible refine bi_xor ?_) | (with_reducible refine bi_shr (by omega) (by decide) ?_) | (with_reducible refine bi_shl (by omega) (by decide) ?_) | (with_reducible refine bi_quo64 (by omega) ?_) | (with_reducible refine bi_rem64 (by omega) ?_) | (with_reducible refine bi_mul64 (by omega) ?_) | (with_reducible refine bi_neg ?_) | (with_reducible refine bi_un_xor32 ?_) | (with_reducible refine bi_add ?_) | (with_reducible refine bi_sub ?_) | (with_reducible refine bi_mul ?_) | (with_reducible refine bi_quo (by decide) ?_) | (with_reducible refine bi_rem (by decide) ?_)))
    refine cvl call93 ?_
    refine (bulk1_spec gn _ _ w8 hN8 hsm).mono ?_
    rintro _ w9 ⟨hN9, hT9⟩
    have hL9 := hL8.turns hT9 (by omega)
    have hb9 := keepT hb8' hT9
    (repeat (first | (with_reducible refine nck ?_) | (with_reducible refine cdT ?_) | (with_reducible refine cdF ?_) | (with_reducible refine gdY ?_) | (with_reducible refine gdFT ?_) | (with_reducible refine gdTF ?_) | (with_reducible refine gdU ?_) | (with_reducible refine gaY ?_) | (with_reducible refine gaFT ?_) | (with_reducible refine gaTF ?_) | (with_reducible refine pickT ?_) | (with_reducible refine pickF ?_) | (with_reducible refine bi_lss_t (by omega) ?_) | (with_reducible refine bi_lss_f (by omega) ?_) | (with_reducible refine bi_add64 (by omega) ?_) | (with_reducible refine bi_sub64 (by omega) ?_) | (with_reducible refine bi_eql_t (by omega) ?_) | (with_reducible refine bi_eql_f (by omega) ?_) | (with_reducible refine bi_neq_t (by omega) ?_) | (with_reducible refine bi_neq_f (by omega) ?_) | (with_reducible refine bi_gtr_t (by omega) ?_) | (with_reducible refine bi_gtr_f (by omega) ?_) | (with_reducible refine bi_leq_t (by omega) ?_) | (with_reducible refine bi_leq_f (by omega) ?_) | (with_reducible refine bi_geq_t (by omega) ?_) | (with_reducible refine bi_geq_f (by omega) ?_) | (with_reducible refine bi_xt0 ?_) | (with_reducible refine bi_xt1 ?_) | (with_reducible refine bi_xt2 ?_) | (with_reducible refine bi_xt3 ?_) | (with_reducible refine bi_T ?_) | (with_reducible refine bi_F ?_) | (with_reducible refine bi_not ?_) | (with_reducible refine bi_and ?_) | (with_reducible refine bi_or ?_) | (with_reducible refine bi_xor ?_) | (with_reducible refine bi_shr (by omega) (by decide) ?_) | (with_reducible refine bi_shl (by omega) (by decide) ?_) | (with_reducible refine bi_quo64 (by omega) ?_) | (with_reducible refine bi_rem64 (by omega) ?_) | (with_reducible refine bi_mul64 (by omega) ?_) | (with_reducible refine bi_neg ?_) | (with_reducible refine bi_un_xor32 ?_) | (with_reducible refine bi_add ?_) | (with_reducible refine bi_sub ?_) | (with_reducible refine bi_mul ?_) | (with_reducible refine bi_quo (by decide) ?_) | (with_reducible refine bi_rem (by decide) ?_)))
    refine hJ _ _ ⟨k + 1, by omega, by simp, ?_, hL9, hb9⟩ (by simp [intOf]; omega)
    rw [bulkI, foldl_take_succ _ _ _ k hkp]
    exact hN9
  have hkp : k = is.length := by omega
  subst hkp
  rw [List.take_length] at hN7
  have cN : w7.cell? ⟨gn, 0, none⟩ = some (.int .i64 (bulkI (bulkP (bulkT L) ps) is : Nat)) := hN7.cell 0
  (repeat (first | (with_reducible refine ld one3 cN ?_) | (with_reducible refine nck ?_) | (with_reducible refine cdT ?_) | (with_reducible refine cdF ?_) | (with_reducible refine gdY ?_) | (with_reducible refine gdFT ?_) | (with_reducible refine gdTF ?_) | (with_reducible refine gdU ?_) | (with_reducible refine gaY ?_) | (with_reducible refine gaFT ?_) | (with_reducible refine gaTF ?_) | (with_reducible refine pickT ?_) | (with_reducible refine pickF ?_) | (with_reducible refine bi_lss_t (by omega) ?_) | (with_reducible refine bi_lss_f (by omega) ?_) | (with_reducible refine bi_add64 (by omega) ?_) | (with_reducible refine bi_sub64 (by omega) ?_) | (with_reducible refine bi_eql_t (by omega) ?_) | (with_reducible refine bi_eql_f (by omega) ?_) | (with_reducible refine bi_neq_t (by omega) ?_) | (with_reducible refine bi_neq_f (by omega) ?_) | (with_reducible refine bi_gtr_t (by omega) ?_) | (with_reducible refine bi_gtr_f (by omega) ?_) | (with_reducible refine bi_leq_t (by omega) ?_) | (with_reducible refine bi_leq_f (by omega) ?_) | (with_reducible refine bi_geq_t (by omega) ?_) | (with_reducible refine bi_geq_f (by omega) ?_) | (with_reducible refine bi_xt0 ?_) | (with_reducible refine bi_xt1 ?_) | (with_reducible refine bi_xt2 ?_) | (with_reducible refine bi_xt3 ?_) | (with_reducible refine bi_T ?_) | (with_reducible refine bi_F ?_) | (with_reducible refine bi_not ?_) | (with_reducible refine bi_and ?_) | (with_reducible refine bi_or ?_) | (with_reducible refine bi_xor ?_) | (with_reducible refine bi_shr (by omega) (by decide) ?_) | (with_reducible refine bi_shl (by omega) (by decide) ?_) | (with_reducible refine bi_quo64 (by omega) ?_) | (with_reducible refine bi_rem64 (by omega) ?_) | (with_reducible refine bi_mul64 (by omega) ?_) | (with_reducible refine bi_neg ?_) | (with_reducible refine bi_un_xor32 ?_) | (with_reducible refine bi_add ?_) | (with_reducible refine bi_sub ?_) | (with_reducible refine bi_mul ?_) | (with_reducible refine bi_quo (by decide) ?_) | (with_reducible refine bi_rem (by decide) ?_)))
  exact ⟨rfl, hb7⟩
end Go.Proofs.Ythicbfopjakiiaa.E
