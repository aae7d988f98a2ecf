import Derived.Test.YthicbfopjakiiaaMc
namespace Go.Proofs.Ythicbfopjakiiaa.E
open Go Go.RowKit
set_option linter.unusedSimpArgs false
set_option linter.unusedVariables false

/-- 2 rows are laid beside each other, joined, appended. -/
theorem join2 {S : World → Prop} {w : World} {B : Nat} {o v0 v1 : Value} {bs x0 x1 : List UInt8} {K : (World → Prop) → Value → World → Prop} (ho : Own 5 w o (bs.map u8)) (hf : Fresh B o) (hB : B ≤ w.heap.size) (h0 : Own 5 w v0 (x0.map u8)) (h1 : Own 5 w v1 (x1.map u8))
    (e0 : x0.length ≤ 200010) (e1 : x1.length ≤ 200010) (hl : bs.length ≤ 200000000) (hS : ∀ w', Turns (fun k => o.ownBlock = some k) w w' → S w')
    (hk : ∀ v' w', Own 5 w' v' ((bs ++ (x0 ++ x1)).map u8) → Fresh B v' → Turns (fun k => o.ownBlock = some k) w w' → (∀ e' u zs, Own e' w u zs → (u.ownBlock = none ∨ u.ownBlock ≠ o.ownBlock) → Own e' w' u zs ∧ (u.ownBlock = none ∨ u.ownBlock ≠ v'.ownBlock)) → K S v' w') :
    ActP S (fun K w => LiftP Try.prog (Instr.buildSlice 133 2 #[(0, v0), (1, v1)]) K w) (fun S v93 w =>
      ActP S (fun K w => CallP Try.prog 54 #[v93] K w) (fun S v94 w =>
      ActP S (fun K w => NextP Try.prog (builtin Go.Builtin.append #[30, 30] 30 #[false, false] #[o, v94]) K w) K w) w) w := by
  obtain ⟨A0, c0, rfl⟩ := h0.slice
  obtain ⟨A1, c1, rfl⟩ := h1.slice
  simp only [List.length_map] at h0 h1 ⊢
  refine act ?_
  refine lift (v := .slice (some ⟨w.heap.size, 0, none⟩) 2 2) (w' := w.alloc (.cells #[.slice A0 x0.length c0, .slice A1 x1.length c1] 30)) (by kernel_rfl) ?_
  have ha : Below w.heap.size w (w.alloc (.cells #[.slice A0 x0.length c0, .slice A1 x1.length c1] 30)) := (Below.refl _ _).alloc (Nat.le_refl _) _
  have hss : RdSS (w.alloc (.cells #[.slice A0 x0.length c0, .slice A1 x1.length c1] 30)) (.slice (some ⟨w.heap.size, 0, none⟩) 2 2) [x0, x1] := by
    refine RdSS.of (cs := [.slice A0 x0.length c0, .slice A1 x1.length c1]) (Own.new w 30 _ (by simp)).rd rfl ?_
    intro i g1 g2
    match i, g1 with
    | 0, _ => exact h0.rdB.below ha
    | 1, _ => exact h1.rdB.below ha
  generalize w.alloc (.cells #[.slice A0 x0.length c0, .slice A1 x1.length c1] 30) = w1 at *
  refine ⟨S, hS _ (Turns.of_below ha), fun _ h => h, ?_⟩
  refine act ?_
  refine (Join_spec _ _ w1 hss (by simp) (by simp only [List.flatten_cons, List.flatten_nil, List.length_append, List.length_nil]; omega)).mono ?_
  rintro v2 w2 ⟨ho2, hf2, hb2⟩
  have hb2' := below_then ha hb2
  refine ⟨S, hS _ (Turns.of_below hb2'), fun _ h => h, ?_⟩
  refine act ?_
  have ho' := ho.below hb2'
  have hs2 := hb2'.size
  refine ap undB inf5 (by rfl) (by decide) ho' ho2.rd (u8_one _) (by simp only [List.length_map, List.flatten_cons, List.flatten_nil, List.length_append, List.length_nil]; omega) ?_
  intro v3 w3 ho3 hg3 hbl3
  have hT3 : Turns (fun k => o.ownBlock = some k) w w3 := (Turns.of_below hb2').trans (⟨hg3.os, hg3.tape, hg3.output, hg3.size, fun j hj hF => hg3.block j hj (fun e => hF (.inl e.symm))⟩)
  refine ⟨S, hS _ hT3, fun _ h => h, hk _ _ ?_ ?_ hT3 ?_⟩
  · rw [← List.map_append] at ho3
    simpa using ho3
  · intro k hk
    rcases hbl3 with h | h
    · rw [h] at hk; exact hf k hk
    · rw [h] at hk; cases hk; omega
  · intro e' u zs hu hne
    refine ⟨(hu.below hb2').kept hg3 hne, ?_⟩
    rcases hne with h | h
    · exact .inl h
    · cases hq : u.ownBlock with
      | none => exact .inl rfl
      | some k =>
        right
        rcases hbl3 with h' | h'
        · rw [h', ← hq]; exact h
        · rw [h']
          intro he
          have := hu.ownLt hq
          cases he; omega
/-- 3 rows are laid beside each other, joined, appended. -/
theorem join3 {S : World → Prop} {w : World} {B : Nat} {o v0 v1 v2 : Value} {bs x0 x1 x2 : List UInt8} {K : (World → Prop) → Value → World → Prop} (ho : Own 5 w o (bs.map u8)) (hf : Fresh B o) (hB : B ≤ w.heap.size) (h0 : Own 5 w v0 (x0.map u8)) (h1 : Own 5 w v1 (x1.map u8)) (h2 : Own 5 w v2 (x2.map u8))
    (e0 : x0.length ≤ 200010) (e1 : x1.length ≤ 200010) (e2 : x2.length ≤ 200010) (hl : bs.length ≤ 200000000) (hS : ∀ w', Turns (fun k => o.ownBlock = some k) w w' → S w')
    (hk : ∀ v' w', Own 5 w' v' ((bs ++ (x0 ++ x1 ++ x2)).map u8) → Fresh B v' → Turns (fun k => o.ownBlock = some k) w w' → (∀ e' u zs, Own e' w u zs → (u.ownBlock = none ∨ u.ownBlock ≠ o.ownBlock) → Own e' w' u zs ∧ (u.ownBlock = none ∨ u.ownBlock ≠ v'.ownBlock)) → K S v' w') :
    ActP S (fun K w => LiftP Try.prog (Instr.buildSlice 133 3 #[(0, v0), (1, v1), (2, v2)]) K w) (fun S v93 w =>
      ActP S (fun K w => CallP Try.prog 54 #[v93] K w) (fun S v94 w =>
      ActP S (fun K w => NextP Try.prog (builtin Go.Builtin.append #[30, 30] 30 #[false, false] #[o, v94]) K w) K w) w) w := by
  obtain ⟨A0, c0, rfl⟩ := h0.slice
  obtain ⟨A1, c1, rfl⟩ := h1.slice
  obtain ⟨A2, c2, rfl⟩ := h2.slice
  simp only [List.length_map] at h0 h1 h2 ⊢
  refine act ?_
  refine lift (v := .slice (some ⟨w.heap.size, 0, none⟩) 3 3) (w' := w.alloc (.cells #[.slice A0 x0.length c0, .slice A1 x1.length c1, .slice A2 x2.length c2] 30)) (by kernel_rfl) ?_
  have ha : Below w.heap.size w (w.alloc (.cells #[.slice A0 x0.length c0, .slice A1 x1.length c1, .slice A2 x2.length c2] 30)) := (Below.refl _ _).alloc (Nat.le_refl _) _
  have hss : RdSS (w.alloc (.cells #[.slice A0 x0.length c0, .slice A1 x1.length c1, .slice A2 x2.length c2] 30)) (.slice (some ⟨w.heap.size, 0, none⟩) 3 3) [x0, x1, x2] := by
    refine RdSS.of (cs := [.slice A0 x0.length c0, .slice A1 x1.length c1, .slice A2 x2.length c2]) (Own.new w 30 _ (by simp)).rd rfl ?_
    intro i g1 g2
    match i, g1 with
    | 0, _ => exact h0.rdB.below ha
    | 1, _ => exact h1.rdB.below ha
    | 2, _ => exact h2.rdB.below ha
  generalize w.alloc (.cells #[.slice A0 x0.length c0, .slice A1 x1.length c1, .slice A2 x2.length c2] 30) = w1 at *
  refine ⟨S, hS _ (Turns.of_below ha), fun _ h => h, ?_⟩
  refine act ?_
  refine (Join_spec _ _ w1 hss (by simp) (by simp only [List.flatten_cons, List.flatten_nil, List.length_append, List.length_nil]; omega)).mono ?_
  rintro v2 w2 ⟨ho2, hf2, hb2⟩
  have hb2' := below_then ha hb2
  refine ⟨S, hS _ (Turns.of_below hb2'), fun _ h => h, ?_⟩
  refine act ?_
  have ho' := ho.below hb2'
  have hs2 := hb2'.size
  refine ap undB inf5 (by rfl) (by decide) ho' ho2.rd (u8_one _) (by simp only [List.length_map, List.flatten_cons, List.flatten_nil, List.length_append, List.length_nil]; omega) ?_
  intro v3 w3 ho3 hg3 hbl3
  have hT3 : Turns (fun k => o.ownBlock = some k) w w3 := (Turns.of_below hb2').trans (⟨hg3.os, hg3.tape, hg3.output, hg3.size, fun j hj hF => hg3.block j hj (fun e => hF (.inl e.symm))⟩)
  refine ⟨S, hS _ hT3, fun _ h => h, hk _ _ ?_ ?_ hT3 ?_⟩
  · rw [← List.map_append] at ho3
    simpa using ho3
  · intro k hk
    rcases hbl3 with h | h
    · rw [h] at hk; exact hf k hk
    · rw [h] at hk; cases hk; omega
  · intro e' u zs hu hne
    refine ⟨(hu.below hb2').kept hg3 hne, ?_⟩
    rcases hne with h | h
    · exact .inl h
    · cases hq : u.ownBlock with
      | none => exact .inl rfl
      | some k =>
        right
        rcases hbl3 with h' | h'
        · rw [h', ← hq]; exact h
        · rw [h']
          intro he
          have := hu.ownLt hq
          cases he; omega
theorem seg1 {K : Value → World → Prop} {w : World} {g : Nat} {cs : Array Value} {kind code : Int} (hb : Blk w g 58 cs) (h0 : cs[0]? = some (.int .i64 kind)) (h11 : cs[11]? = some (.int .i64 code))
    (hK : K (.bool (decide (0 ≤ kind ∧ kind ≤ 255) && decide (0 ≤ code ∧ code ≤ 1099511627776))) w) :
  LiftP Try.prog (Instr.fieldAt 58 (.pointer (some ⟨g, 0, none⟩)) 0) (fun v18 w =>
  LiftP Try.prog (Instr.loadAt 3 v18) (fun v19 w =>
  CallP Try.prog 85 #[v19, (Go.Value.int Go.IntKind.i64 255)] (fun v20 w =>
  GuardP v20 true (fun K w => LiftP Try.prog (Instr.fieldAt 58 (.pointer (some ⟨g, 0, none⟩)) 11) K w) (fun v22 w =>
  GuardP v20 true (fun K w => LiftP Try.prog (Instr.loadAt 25 v22) K w) (fun v23 w =>
  GuardP v20 true (fun K w => CallP Try.prog 85 #[v23, (Go.Value.int Go.IntKind.i64 1099511627776)] K w) (fun v24 w =>
  PickP v20 v24 (Go.Value.bool false) K w) w) w) w) w) w) w := by
  have c0 : w.cell? ⟨g, 0, none⟩ = some (.int .i64 kind) := (hb.cell 0).trans h0
  have c11 : w.cell? ⟨g, 11, none⟩ = some (.int .i64 code) := (hb.cell 11).trans h11
  (repeat with_reducible first | refine fd l0 (by decide) ?_| refine ld one3 c0 ?_|refine z_a ?_|refine z_b ?_|refine z_c ?_|refine z_d ?_|refine z_e ?_|refine z_f ?_|refine z_g ?_|refine z_h ?_|refine z_i ?_|refine z_j ?_|refine z_k ?_|refine z_l ?_|refine z_m (by omega) ?_|refine z_n (by omega) ?_|refine z_o (by omega) ?_|refine z_p (by omega) ?_|refine z_q (by omega) ?_|refine z_r (by omega) ?_|refine z_s (by omega) ?_|refine z_t (by omega) ?_|refine z_u (by omega) ?_|refine z_v (by omega) ?_|refine z_w (by omega) ?_|refine z_x (by omega) ?_|refine z_y (by omega) ?_|refine z_z (by omega) ?_|refine z_A ?_|refine z_B ?_|refine z_C ?_|refine z_D ?_|refine z_E ?_|refine z_F ?_|refine z_G ?_|refine z_H ?_|refine z_I ?_|refine z_J ?_|refine z_K (by omega) (by decide) ?_|refine z_L (by omega) (by decide) ?_|refine z_M (by omega) ?_|refine z_N (by omega) ?_|refine z_O (by omega) ?_|refine z_P ?_|refine z_Q ?_|refine z_R ?_|refine z_S ?_|refine z_T ?_|refine z_U (by decide) ?_|refine z_V (by decide) ?_)
  refine (within_spec kind 255 w).mono ?_
  rintro _ _ ⟨rfl, rfl⟩
  by_cases h1 : 0 ≤ kind ∧ kind ≤ 255
  · rw [decide_eq_true h1] at hK ⊢
    (repeat with_reducible first | refine fd l11 (by decide) ?_| refine ld one25 c11 ?_|refine z_a ?_|refine z_b ?_|refine z_c ?_|refine z_d ?_|refine z_e ?_|refine z_f ?_|refine z_g ?_|refine z_h ?_|refine z_i ?_|refine z_j ?_|refine z_k ?_|refine z_l ?_|refine z_m (by omega) ?_|refine z_n (by omega) ?_|refine z_o (by omega) ?_|refine z_p (by omega) ?_|refine z_q (by omega) ?_|refine z_r (by omega) ?_|refine z_s (by omega) ?_|refine z_t (by omega) ?_|refine z_u (by omega) ?_|refine z_v (by omega) ?_|refine z_w (by omega) ?_|refine z_x (by omega) ?_|refine z_y (by omega) ?_|refine z_z (by omega) ?_|refine z_A ?_|refine z_B ?_|refine z_C ?_|refine z_D ?_|refine z_E ?_|refine z_F ?_|refine z_G ?_|refine z_H ?_|refine z_I ?_|refine z_J ?_|refine z_K (by omega) (by decide) ?_|refine z_L (by omega) (by decide) ?_|refine z_M (by omega) ?_|refine z_N (by omega) ?_|refine z_O (by omega) ?_|refine z_P ?_|refine z_Q ?_|refine z_R ?_|refine z_S ?_|refine z_T ?_|refine z_U (by decide) ?_|refine z_V (by decide) ?_)
    refine (within_spec code 1099511627776 w).mono ?_
    rintro _ _ ⟨rfl, rfl⟩
    (repeat with_reducible first|refine z_a ?_|refine z_b ?_|refine z_c ?_|refine z_d ?_|refine z_e ?_|refine z_f ?_|refine z_g ?_|refine z_h ?_|refine z_i ?_|refine z_j ?_|refine z_k ?_|refine z_l ?_|refine z_m (by omega) ?_|refine z_n (by omega) ?_|refine z_o (by omega) ?_|refine z_p (by omega) ?_|refine z_q (by omega) ?_|refine z_r (by omega) ?_|refine z_s (by omega) ?_|refine z_t (by omega) ?_|refine z_u (by omega) ?_|refine z_v (by omega) ?_|refine z_w (by omega) ?_|refine z_x (by omega) ?_|refine z_y (by omega) ?_|refine z_z (by omega) ?_|refine z_A ?_|refine z_B ?_|refine z_C ?_|refine z_D ?_|refine z_E ?_|refine z_F ?_|refine z_G ?_|refine z_H ?_|refine z_I ?_|refine z_J ?_|refine z_K (by omega) (by decide) ?_|refine z_L (by omega) (by decide) ?_|refine z_M (by omega) ?_|refine z_N (by omega) ?_|refine z_O (by omega) ?_|refine z_P ?_|refine z_Q ?_|refine z_R ?_|refine z_S ?_|refine z_T ?_|refine z_U (by decide) ?_|refine z_V (by decide) ?_)
    simpa using hK
  · rw [decide_eq_false h1] at hK ⊢
    (repeat with_reducible first|refine z_a ?_|refine z_b ?_|refine z_c ?_|refine z_d ?_|refine z_e ?_|refine z_f ?_|refine z_g ?_|refine z_h ?_|refine z_i ?_|refine z_j ?_|refine z_k ?_|refine z_l ?_|refine z_m (by omega) ?_|refine z_n (by omega) ?_|refine z_o (by omega) ?_|refine z_p (by omega) ?_|refine z_q (by omega) ?_|refine z_r (by omega) ?_|refine z_s (by omega) ?_|refine z_t (by omega) ?_|refine z_u (by omega) ?_|refine z_v (by omega) ?_|refine z_w (by omega) ?_|refine z_x (by omega) ?_|refine z_y (by omega) ?_|refine z_z (by omega) ?_|refine z_A ?_|refine z_B ?_|refine z_C ?_|refine z_D ?_|refine z_E ?_|refine z_F ?_|refine z_G ?_|refine z_H ?_|refine z_I ?_|refine z_J ?_|refine z_K (by omega) (by decide) ?_|refine z_L (by omega) (by decide) ?_|refine z_M (by omega) ?_|refine z_N (by omega) ?_|refine z_O (by omega) ?_|refine z_P ?_|refine z_Q ?_|refine z_R ?_|refine z_S ?_|refine z_T ?_|refine z_U (by decide) ?_|refine z_V (by decide) ?_)
    simpa using hK
end Go.Proofs.Ythicbfopjakiiaa.E
