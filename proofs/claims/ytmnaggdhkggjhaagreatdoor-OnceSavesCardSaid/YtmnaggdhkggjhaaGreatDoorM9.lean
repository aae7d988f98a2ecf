import Derived.Test.YtmnaggdhkggjhaaGreatDoorM8
import Derived.Test.YtmnaggdhkggjhaaGreatDoorM5
namespace Go.Proofs.YtmnaggdhkggjhaaGreatDoor.E
open Go Go.RowKit
set_option linter.unusedSimpArgs false
set_option linter.unusedVariables false

theorem light_spec (v : Value) (vs : List ValT) (w : World) (hv : Vals w [v] vs) :
    CallP Tryz.prog 15 #[v, .int .i64 300] (fun r w' => ∃ b, r = .bool b ∧ (b = true → vs.length ≤ 301 ∧ (vs.map (·.2.2.1.size)).sum ≤ 300) ∧ w = w') w := by
  obtain ⟨A, c, rfl, hc, hm⟩ := hv.slice
  refine ⟨S15.calls _ _ _ _ ?_⟩
  unfold S15
  refine LoopP.inv2 (fun tv iv w' => ∃ (k t : Nat), k ≤ vs.length ∧ k ≤ 301 ∧ iv = .int .i64 k ∧ tv = .int .i64 t ∧ t = ((vs.take k).map (·.2.2.1.size)).sum ∧ t ≤ 300 ∧ w = w') (fun _ iv _ => vs.length - (intOf iv).toNat) ⟨0, 0, by omega, by omega, rfl, rfl, by simp, by omega, rfl⟩ ?_
  rintro _ _ _ ⟨k, t, hk, hk3, rfl, rfl, ht, ht3, rfl⟩ J hJ
  dsimp only [List.headD_cons, List.tail_cons]
  refine ln und23 ?_
  refine bi_lss_c (fun h => ?_) (fun h => ?_)
  · have hk' : k < vs.length := by omega
    obtain ⟨a, us, rfl, hus, hcell, hrd⟩ := rRow.at hv k hk'
    obtain ⟨rfl, hok⟩ := val_cells hrd
    have hc2 : w.cell? ((a.add (k * 3)).add 2) = some (.string vs[k].2.2.1) := hcell 2 _ rfl
    (repeat with_reducible first|refine ixN und23 sz36 k hk' ?_|refine fdA v2 (by decide) ?_|refine ld one9 hc2 ?_|refine z_b ?_)
    refine lns und9 ?_
    refine bi_gtr_c (fun h1 => ?_) (fun h1 => ?_)
    · (repeat with_reducible first|refine z_b ?_|refine z_f ?_|refine z_k ?_)
      exact ⟨false, rfl, (fun h => by cases h), rfl⟩
    (repeat with_reducible first|refine z_d ?_)
    refine bi_gtr_c (fun h2 => ?_) (fun h2 => ?_)
    · (repeat with_reducible first|refine z_b ?_|refine z_l ?_)
      exact ⟨false, rfl, (fun h => by cases h), rfl⟩
    (repeat with_reducible first|refine ixN und23 sz36 k hk' ?_|refine fdA v2 (by decide) ?_|refine ld one9 hc2 ?_|refine z_c ?_|refine z_l ?_)
    refine lns und9 ?_
    (repeat with_reducible first|refine z_o (by omega) ?_)
    refine bi_gtr_c (fun h3 => ?_) (fun h3 => ?_)
    · (repeat with_reducible first|refine z_b ?_)
      exact ⟨false, rfl, (fun h => by cases h), rfl⟩
    (repeat with_reducible first|refine z_c ?_|refine z_o (by omega) ?_)
    refine hJ _ _ _ ⟨k + 1, t + vs[k].2.2.1.size, by omega, by omega, by simp, by simp, ?_, by omega, rfl⟩ (by simp [intOf]; omega)
    rw [List.take_succ_eq_append_getElem hk', List.map_append, List.sum_append, ← ht]
    simp
  · (repeat with_reducible first|refine z_c ?_)
    have : k = vs.length := by omega
    subst this
    rw [List.take_length] at ht
    exact ⟨true, rfl, fun _ => ⟨hk3, by omega⟩, rfl⟩
/-- The same values. -/
theorem sameVals_spec (v v' : Value) (vs : List ValT) (w : World) (hv : Vals w [v] vs) (hv' : Vals w [v'] vs) : CallP Tryz.prog 59 #[v, v'] (fun r w' => r = .bool true ∧ Below w.heap.size w w') w := by
  obtain ⟨A, c, rfl, hc, hm⟩ := hv.slice
  obtain ⟨A', c', rfl, hc', hm'⟩ := hv'.slice
  refine ⟨S59.calls _ _ _ _ ?_⟩
  unfold S59
  refine ln und23 ?_
  refine ln und23 ?_
  refine bi_neq_c (fun h => absurd rfl h) (fun _ => ?_)
  (repeat with_reducible first|refine z_c ?_)
  refine LoopP.inv1 (fun iv w' => ∃ k : Nat, k ≤ vs.length ∧ iv = .int .i64 k ∧ Below w.heap.size w w') (fun iv _ => vs.length - (intOf iv).toNat) ⟨0, by omega, rfl, Below.refl _ _⟩ ?_
  rintro _ w1 ⟨k, hk, rfl, hb1⟩ J hJ
  dsimp only [List.headD_cons, List.tail_cons]
  refine ln und23 ?_
  refine bi_lss_c (fun h => ?_) (fun h => ?_)
  · have hk' : k < vs.length := by omega
    obtain ⟨a, us, rfl, hus, hcell, hrd⟩ := rRow.at (keeps_Vals _ _ _ _ hb1 hv) k hk'
    obtain ⟨rfl, hok⟩ := val_cells hrd
    obtain ⟨a', us', rfl, hus', hcell', hrd'⟩ := rRow.at (keeps_Vals _ _ _ _ hb1 hv') k hk'
    obtain ⟨rfl, _⟩ := val_cells hrd'
    have hdr : Below w1.heap.size w1 w1.drew := (Below.refl _ _).drew
    (repeat with_reducible first|refine z_b ?_)
    refine draw (Below w1.heap.size w1) hdr ?_
    refine yixA und23 sz36 k hk' ?_
    refine yldR agg36 (keepC hcell) (by rw [sz36]; rfl) ?_
    refine yixA und23 sz36 k hk' ?_
    refine yldR agg36 (keepC hcell') (by rw [sz36]; rfl) ?_
    refine yofPR (pr_neq36 vs[k] vs[k]) ?_
    rw [show (!sameV vs[k] vs[k]) = false from by rw [sameV_self]; rfl]
    (repeat with_reducible first|refine z_c ?_|refine z_o (by omega) ?_)
    exact hJ _ _ ⟨k + 1, by omega, by simp, below_then hb1 hdr⟩ (by simp [intOf]; omega)
  · (repeat with_reducible first|refine z_c ?_)
    exact ⟨rfl, hb1⟩
theorem noRows_spec (v v' : Value) (w : World) (hv : RowsR w [v] []) (hv' : RowsR w [v'] []) : CallP Tryz.prog 60 #[v, v'] (fun r w' => r = .bool true ∧ w = w') w := by
  obtain ⟨A, c, rfl, hc, hm⟩ := hv.slice
  obtain ⟨A', c', rfl, hc', hm'⟩ := hv'.slice
  refine ⟨S60.calls _ _ _ _ ?_⟩
  unfold S60
  refine ln und25 ?_
  refine ln und25 ?_
  refine bi_neq_c (fun h => absurd rfl h) (fun _ => ?_)
  (repeat with_reducible first|refine z_c ?_)
  refine LoopP.inv1 (fun iv w' => iv = .int .i64 0 ∧ w = w') (fun iv _ => 0) ⟨rfl, rfl⟩ ?_
  rintro _ _ ⟨rfl, rfl⟩ J hJ
  dsimp only [List.headD_cons, List.tail_cons]
  refine ln und25 ?_
  refine bi_lss_c (fun h => absurd h (by simp)) (fun _ => ?_)
  (repeat with_reducible first|refine z_c ?_)
  exact ⟨rfl, rfl⟩
theorem RowsR.nil (w : World) (n : Nat) (h : n ≤ 9223372036854775807) : RowsR w [.slice none 0 n] [] := ⟨none, n, rfl, Nat.zero_le _, by simp only [maxLen]; omega, fun i x hx => by simp at hx⟩
theorem beq_T {P : Program} {K : Value → World → Prop} {w : World} {t : TypeId} {x y : Operand} {b : Bool} (ht : P.underlying t = some .bool) (k : K (.bool true) w) : LiftP P (binS .eql t x y (.bool b) (.bool b)) K w :=
  bi_beql ht (by rw [decide_eq_true rfl]; exact k)
theorem ieq_T {P : Program} {K : Value → World → Prop} {w : World} {t : TypeId} {x y : Operand} {kd : IntKind} {a : Int} (k : K (.bool true) w) : LiftP P (binS .eql t x y (.int kd a) (.int kd a)) K w :=
  bi_eql (by rw [decide_eq_true rfl]; exact k)
/-- The same replies, without rows. -/
theorem sameRep_spec (R : Rep) (p q p' q' : Value) (vs : List ValT) (w : World) (hp : Vals w [p] vs) (hp' : Vals w [p'] vs) (hq : RowsR w [q] []) (hq' : RowsR w [q'] []) :
    CallP Tryz.prog 34 #[.agg (R.cells p q), .agg (R.cells p' q')] (fun r w' => r = .bool true ∧ Below w.heap.size w w') w := by
  refine ⟨S34.calls _ _ _ _ ?_⟩
  unfold S34
  refine bx ?_
  have hL : Blk (w.alloc (.cells (Value.agg (R.cells p q)).cells 39)) w.heap.size 39 (R.cells p q) := Blk.new w 39 _
  have ha := (Below.refl w.heap.size w).alloc (Nat.le_refl _) (.cells (Value.agg (R.cells p q)).cells 39)
  generalize w.alloc (.cells (Value.agg (R.cells p q)).cells 39) = w1 at *
  refine bx ?_
  have hM : Blk (w1.alloc (.cells (Value.agg (R.cells p' q')).cells 39)) w1.heap.size 39 (R.cells p' q') := Blk.new w1 39 _
  have ha2 := (Below.refl w1.heap.size w1).alloc (Nat.le_refl _) (.cells (Value.agg (R.cells p' q')).cells 39)
  have hL2 := hL.below' ha2
  generalize hg2 : w1.heap.size = g2 at *
  generalize w1.alloc (.cells (Value.agg (R.cells p' q')).cells 39) = w2 at *
  have hb2 : Below w.heap.size w w2 := ha.trans (ha2.mono (by have := ha.size; omega))
  have c0 : w2.cell? ⟨w.heap.size, 0, none⟩ = some (.int .i64 R.code) := hL2.cell 0
  have c1 : w2.cell? ⟨w.heap.size, 1, none⟩ = some (.bool R.there) := hL2.cell 1
  have c2 : w2.cell? ⟨w.heap.size, 2, none⟩ = some p := hL2.cell 2
  have c4 : w2.cell? ⟨w.heap.size, 4, none⟩ = some (.int .i64 R.id) := hL2.cell 4
  have d0 : w2.cell? ⟨g2, 0, none⟩ = some (.int .i64 R.code) := hM.cell 0
  have d1 : w2.cell? ⟨g2, 1, none⟩ = some (.bool R.there) := hM.cell 1
  have d2 : w2.cell? ⟨g2, 2, none⟩ = some p' := hM.cell 2
  have d4 : w2.cell? ⟨g2, 4, none⟩ = some (.int .i64 R.id) := hM.cell 4
  refine fd r0 (by decide) ?_
  refine ld one22 c0 ?_
  refine fd r0 (by decide) ?_
  refine ld one22 d0 ?_
  refine ieq_T ?_
  (repeat with_reducible first|refine fd r1 (by decide) ?_|refine ld one4 c1 ?_|refine ld one4 d1 ?_|refine z_d ?_)
  refine beq_T und4 ?_
  (repeat with_reducible first|refine fd r4 (by decide) ?_|refine ld one3 c4 ?_|refine ld one3 d4 ?_|refine fd r2 (by decide) ?_|refine ld one24 c2 ?_|refine ld one24 d2 ?_|refine z_d ?_|refine z_k ?_|refine z_q (by omega) ?_)
  refine (sameVals_spec _ _ vs w2 (keeps_Vals _ _ _ _ hb2 hp) (keeps_Vals _ _ _ _ hb2 hp')).mono ?_
  rintro _ w3 ⟨rfl, hb3⟩
  have hb3' := below_then hb2 hb3
  have c3 : w3.cell? ⟨w.heap.size, 3, none⟩ = some q := (hL2.below' hb3).cell 3
  have d3 : w3.cell? ⟨g2, 3, none⟩ = some q' := (hM.below' hb3).cell 3
  (repeat with_reducible first|refine fd r3 (by decide) ?_|refine ld one25 c3 ?_|refine ld one25 d3 ?_|refine z_d ?_|refine z_k ?_)
  refine (noRows_spec _ _ w3 (keeps_RowsR _ _ _ _ hb3' hq) (keeps_RowsR _ _ _ _ hb3' hq')).mono ?_
  rintro _ _ ⟨rfl, rfl⟩
  (repeat with_reducible first|refine z_k ?_)
  exact ⟨rfl, hb3'⟩
end Go.Proofs.YtmnaggdhkggjhaaGreatDoor.E
namespace Go.Proofs.YtmnaggdhkggjhaaGreatDoor.E
open Go Go.RowKit
set_option linter.unusedSimpArgs false
set_option linter.unusedVariables false

theorem Vals.nil (w : World) : Vals w [.slice none 0 0] [] := ⟨none, 0, rfl, Nat.zero_le _, Nat.zero_le _, fun i x hx => by simp at hx⟩
theorem Dh0 {hu : Nat} (h : 0 < hu) {c : Nat → Nat} {k : Nat} (hc : c k = 0) : ¬ Dh hu c k := fun e => by rw [Dh, hc] at e; omega
/-- Nothing of before has turned. -/
theorem Turns.toBelow {hu : Nat} (h : 0 < hu) {c : Nat → Nat} {w w' : World} (hT : Turns (Dh hu c) w w') (hc : ∀ k, k < w.heap.size → c k = 0) : Below w.heap.size w w' := hT.below (Nat.le_refl _) fun k hk => Dh0 h (hc k hk)
def awR : Nat → Rep
  | 0 => ⟨0, true, 0⟩
  | _ => zeroRep
def awakeV : Nat → (Int → VC)
  | 0 => V0
  | k + 1 => (keepQ (awakeV k) 1 (5 + k) (awR k) [] 0).2
theorem aw0 : (keepQ V0 1 5 (awR 0) [] 0).1 = 0 := by decide +kernel
theorem awa : lookQ (awakeV 1) 1 5 = (0, some (awR 0, [])) := rfl
theorem awb : lookQ (awakeV 1) 1 4 = (7, none) := rfl
theorem awc : lookQ (awakeV 5) 1 4 = (12, none) := rfl
theorem awd : (awakeV 5 1).1 = 5 := rfl
theorem awake_spec (w : World) : CallP Tryz.prog 4 #[] (fun r w' => r = .bool true ∧ Below w.heap.size w w') w := by
  refine ⟨S4.calls _ _ ?_⟩
  unfold S4
  refine (New_V 1 (by decide) (fun _ => 0) w).mono ?_
  rintro _ w1 ⟨g, c1, rfl, hc1, h1, hb1⟩
  have hT1 : Turns (Dh 1 fun _ => 0) w w1 := Turns.of_below hb1
  refine ofPR (pr_pnil und30) ?_
  simp only [Option.isNone_some]
  (repeat with_reducible first|refine z_d ?_)
  refine bd (cells := (awR 0).cells (.slice none 0 0) (.slice none 0 0)) (by kernel_rfl) ?_
  (repeat with_reducible first|refine z_d ?_)
  refine (Keep_V 1 5 (awR 0) (.slice none 0 0) (.slice none 0 0) [] [] h1 (Vals.nil _) (.inl rfl) (RowsR.nil _ 0 (by decide)) (by simp) (by decide)).mono ?_
  rintro _ w2 ⟨rfl, c2, hc2, h2, hT2⟩
  have hT2' := hT1.stepH hc1 hT2
  rw [List.length_nil] at h2 ⊢
  rw [aw0]
  (repeat with_reducible first|refine z_c ?_|refine z_d ?_|refine z_l ?_|refine z_t (by omega) ?_)
  have h2 : TabV 1 c2 w2 g (awakeV 1) 1 := h2
  refine (Look_V 1 5 h2).mono ?_
  rintro _ w3 ⟨p3, rfl, ho3, hf3, hb3⟩
  have h3 := h2.below hb3
  rw [awa]
  have h1p : p3.oneCell' = true := by obtain ⟨A, e⟩ := ho3.slice; rw [e]; rfl
  (repeat with_reducible first|refine z_A ?_|refine z_B ?_)
  refine newRep h1p rfl ?_
  intro w4 hB4 hb4
  have h4 := h3.below hb4
  refine (Look_V 1 4 h4).mono ?_
  rintro _ w5 ⟨p5, rfl, ho5, hf5, hb5⟩
  rw [awb]
  have h1p5 : p5.oneCell' = true := by obtain ⟨A, e⟩ := ho5.slice; rw [e]; rfl
  (repeat with_reducible first|refine z_A ?_|refine z_B ?_)
  refine newRep h1p5 rfl ?_
  intro w6 hB6 hb6
  have hb26 : Below w2.heap.size w2 w6 := below_then (below_then (below_then hb3 hb4) hb5) hb6
  have hB46 := (hB4.below' hb5).below' hb6
  have hcol := col_lt c2 w2.heap.size 0
  have h6 : TabV 1 (col c2 w2.heap.size 0) w6 g (awakeV 1) 1 := (h2.re hcol).below hb26
  have hs1 := hb1.size
  have hs2 := hT2.size
  have hs3 := hb3.size
  have hag : ∀ k, k < w.heap.size → col c2 w2.heap.size 0 k = 0 := fun k hk => by rw [hcol k (by omega), hc2 k (by omega), hc1 k hk]
  generalize hgb : w3.heap.size = gb at *
  refine LoopP.inv1 (fun iv w' => ∃ (k : Nat) (c : Nat → Nat), k ≤ 4 ∧ iv = .int .i64 (6 + k) ∧ TabV 1 c w' g (awakeV (1 + k)) (1 + k) ∧ (∀ j, j < w.heap.size → c j = 0) ∧ c gb = 0 ∧ Blk w' gb 39 ((awR 0).cells p3 (.slice none 0 0)) ∧ Turns (Dh 1 fun _ => 0) w w') (fun iv _ => 10 - (intOf iv).toNat)
    ⟨0, col c2 w2.heap.size 0, by omega, rfl, h6, hag, col_ge _ _ _ hs3, hB46, hT2'.then_below hb26⟩ ?_
  rintro _ w7 ⟨k, c, hk, rfl, h7, hc7, hcg, hB7, hT7⟩ J hJ
  dsimp only [List.headD_cons, List.tail_cons]
  refine bi_lss_c (fun h => ?_) (fun h => ?_)
  · have hk3 : k < 4 := by omega
    (repeat with_reducible first|refine z_b ?_)
    refine bd (cells := zeroRep.cells (.slice none 0 0) (.slice none 0 0)) (by kernel_rfl) ?_
    refine (Keep_V 1 (6 + k) zeroRep (.slice none 0 0) (.slice none 0 0) [] [] h7 (Vals.nil _) (.inl rfl) (RowsR.nil _ 0 (by decide)) (by simp) (by omega)).mono ?_
    rintro _ w8 ⟨rfl, c8, hc8, h8, hT8⟩
    (repeat with_reducible first|refine z_o (by omega) ?_)
    have hs7 := hT7.size
    have hgl := hB7.lt
    refine hJ _ _ ⟨k + 1, c8, by omega, by simp; omega, ?_, fun j hj => by rw [hc8 j (by omega), hc7 j hj], by rw [hc8 gb hgl, hcg], hB7.turns hT8 (Dh0 (by decide) hcg), hT7.stepH (c1 := c) (fun j hj => hc7 j hj) hT8⟩ (by simp [intOf]; omega)
    have e : awakeV (1 + (k + 1)) = (keepQ (awakeV (1 + k)) 1 (6 + k) zeroRep [] 0).2 := by
      rw [show 1 + (k + 1) = (k + 1) + 1 from by omega, awakeV, show k + 1 = 1 + k from by omega]
      have : awR (1 + k) = zeroRep := by rw [show 1 + k = k + 1 from by omega]; rfl
      rw [this, show (5 : Int) + ((1 + k : Nat) : Int) = 6 + k from by omega]
    rw [e]
    exact h8.mono (by omega)
  · have : k = 4 := by omega
    subst this
    (repeat with_reducible first|refine z_c ?_)
    refine (Look_V 1 4 h7).mono ?_
    rintro _ w8 ⟨p8, rfl, ho8, hf8, hb8⟩
    rw [awc]
    have h1p8 : p8.oneCell' = true := by obtain ⟨A, e⟩ := ho8.slice; rw [e]; rfl
    (repeat with_reducible first|refine z_A ?_|refine z_B ?_)
    refine newRep h1p8 rfl ?_
    intro w9 hB9 hb9
    have hb79 := below_then hb8 hb9
    have hB79 := hB7.below' hb79
    have h9 := h7.below hb79
    have c1 : w9.cell? ⟨gb, 1, none⟩ = some (.bool true) := hB79.cell 1
    (repeat with_reducible first|refine fd r1 (by decide) ?_|refine ld one4 c1 ?_|refine z_d ?_|refine z_k ?_|refine z_q (by omega) ?_)
    refine (Floor_V 1 h9).mono ?_
    rintro _ _ ⟨rfl, rfl⟩
    rw [show (awakeV (1 + 4) 1).1 = 5 from awd]
    (repeat with_reducible first|refine z_d ?_|refine z_k ?_|refine z_q (by omega) ?_)
    exact ⟨rfl, (hT7.then_below hb79).toBelow (by decide) fun _ _ => rfl⟩
end Go.Proofs.YtmnaggdhkggjhaaGreatDoor.E
namespace Go.Proofs.YtmnaggdhkggjhaaGreatDoor.E
open Go Go.RowKit
set_option linter.unusedSimpArgs false
set_option linter.unusedVariables false

abbrev ReplyT := Int × Bool × List ValT × List RowT × Int × Unit
abbrev rReply : Rdr ReplyT := rCons 1 (rI .i64) (rCons 1 rBool (rCons 1 Vals (rCons 1 RowsR (rCons 1 (rI .i64) rNil))))
theorem opens_Val : Opens Tryz.prog 91 rVal := opens_struct Tryz.underlying91 (by kernel_rfl) (opensF_cons rfl (by kernel_rfl) (by decide) (opens_int und3) (opensF_cons rfl (by kernel_rfl) (by decide) (opens_int und3) (opensF_cons rfl (by kernel_rfl) (by decide) (opens_string und9) opensF_nil)))
theorem opens_Vals : Opens Tryz.prog 36 Vals := opens_row und24 (by kernel_rfl) opens_Val
theorem opens_RowsR : Opens Tryz.prog 37 RowsR := opens_row und25 (by kernel_rfl) (opens_struct Tryz.underlying124 (by kernel_rfl) (opensF_cons rfl (by kernel_rfl) (by decide) (opens_string und9) (opensF_cons rfl (by kernel_rfl) (by decide) opens_Vals opensF_nil)))
theorem opens_Reply : Opens Tryz.prog 39 rReply := opens_struct Tryz.underlying39 (by kernel_rfl)
  (opensF_cons rfl (by kernel_rfl) (by decide) (opens_int und22) (opensF_cons rfl (by kernel_rfl) (by decide) (opens_bool und4) (opensF_cons rfl (by kernel_rfl) (by decide) opens_Vals (opensF_cons rfl (by kernel_rfl) (by decide) opens_RowsR (opensF_cons rfl (by kernel_rfl) (by decide) (opens_int und3) opensF_nil)))))
theorem reply_cells {w : World} {cs : List Value} {z : ReplyT} (h : rReply w cs z) : ∃ p q, cs = ((⟨z.1, z.2.1, z.2.2.2.2.1⟩ : Rep).cells p q).toList ∧ Vals w [p] z.2.2.1 ∧ RowsR w [q] z.2.2.2.1 := by
  obtain ⟨r, rfl, _, h⟩ := rCons_I h
  obtain ⟨r, rfl, h9⟩ := rCons_Bool h
  obtain ⟨p, r, rfl, hp, h⟩ := rCons_Row h9
  obtain ⟨q, r, rfl, hq, h⟩ := rCons_Row h
  obtain ⟨r, rfl, _, h⟩ := rCons_I h
  have : r = [] := h
  subst this
  exact ⟨p, q, rfl, hp, hq⟩
end Go.Proofs.YtmnaggdhkggjhaaGreatDoor.E

