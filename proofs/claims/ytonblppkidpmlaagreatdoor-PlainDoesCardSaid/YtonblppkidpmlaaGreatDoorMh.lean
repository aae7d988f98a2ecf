import Derived.Test.YtonblppkidpmlaaGreatDoorMg
namespace Go.Proofs.YtonblppkidpmlaaGreatDoor.E
open Go Go.RowKit
set_option linter.unusedSimpArgs false
set_option linter.unusedVariables false

theorem firstE_1 {e : Int} {l : List Int} (h : e ≠ 0) : firstE (e :: l) = e := by rw [firstE, if_pos h]
theorem firstE_0 {e : Int} {l : List Int} (h : e = 0) : firstE (e :: l) = firstE l := by rw [firstE, if_neg (by omega)]
theorem firstE_last (e : Int) : firstE [e] = e := by
  unfold firstE
  split
  · rfl
  · rename_i h; have : e = 0 := Classical.not_not.1 h
    rw [this]; rfl
theorem mustE_t {b : Bool} (h : b = true) : mustE b = 0 := by rw [h]; rfl
theorem mustE_f {b : Bool} (h : b = false) : mustE b = 1 := by rw [h]; rfl
theorem inE_t {n a b : Int} (h : a ≤ n ∧ n ≤ b) : inE n a b = 0 := by unfold inE; rw [if_pos h]
theorem inE_f {n a b : Int} (h : ¬ (a ≤ n ∧ n ≤ b)) : inE n a b = 1 := by unfold inE; rw [if_neg h]
theorem limit_spec (n : Int) (w : World) : CallP Tryz.prog 42 #[.int .i64 n] (fun r w' => w = w' ∧ r = .bool (decide (1 ≤ n ∧ n ≤ 64))) w := by
  refine ⟨S42.calls _ _ _ ?_⟩
  unfold S42
  refine bi_geq_c (fun h => ?_) (fun h => ?_)
  · (repeat with_reducible first|refine z_d ?_)
    refine bi_leq_c (fun h1 => ?_) (fun h1 => ?_)
    · (repeat with_reducible first|refine z_k ?_)
      exact ⟨rfl, tB ⟨by omega, by omega⟩⟩
    · (repeat with_reducible first|refine z_k ?_)
      exact ⟨rfl, fB fun e => by omega⟩
  · (repeat with_reducible first|refine z_e ?_|refine z_l ?_)
    exact ⟨rfl, fB fun e => by omega⟩
theorem chk_net {o : OpP} (n1 : ¬ o.kind = 1) (n2 : ¬ (o.kind = 2 ∨ o.kind = 3)) (n4 : ¬ o.kind = 4) (k5 : ¬ o.kind = 5) (k6 : ¬ o.kind = 6) (k7 : ¬ o.kind = 7) (k8 : ¬ o.kind = 8) (kk9 : o.kind = 9 ∨ o.kind = 10 ∨ o.kind = 11) :
    chk o = if (o.space = 0 ∨ o.space = 1) ∧ o.key.size ≤ 100 ∧ (o.kind ≠ 11 → o.key.size ≠ 0) ∧ (o.kind = 11 → 1 ≤ o.node ∧ o.node ≤ 4) then 0 else 1 := by
  unfold chk
  rw [if_neg n1, if_neg n2, if_neg n4, if_neg k5, if_neg k6, if_neg k7, if_neg k8]
  by_cases h11 : o.kind = 11
  · rw [if_neg (by omega), if_pos h11]
    unfold inE
    simp only [firstE]
    repeat' split
    all_goals omega
  · rw [if_pos (by omega)]
    unfold inE
    simp only [firstE]
    repeat' split
    all_goals omega
set_option maxHeartbeats 2000000 in
theorem Check12 (o : OpP) (s : OpS) (w : World) (h : OpAt w o s) : CallP Tryz.prog 12 #[.agg (opC o s)] (fun r w' => r = .int .i64 (chk o) ∧ Below w.heap.size w w') w := by
  refine ⟨S12.calls _ _ _ ?_⟩
  unfold S12
  refine bxB ?_
  intro g w1 hg hB hb1
  have hA := h.below hb1
  have hr := Below.refl w1.heap.size w1
  have fin : ∀ {e : Int} {w' : World}, chk o = e → Below w1.heap.size w1 w' → (Value.int .i64 e = .int .i64 (chk o) ∧ Below w.heap.size w w') := fun he hb => ⟨by rw [he], below_then hb1 hb⟩
  (repeat with_reducible first|refine fd of0 (by decide) ?_|refine ld one3 (opk0 hB _ hr) ?_)
  refine JoinP.cut (fun vs w' => vs = [.bool (decide (o.kind = 1 ∨ o.kind = 2 ∨ o.kind = 3 ∨ o.kind = 4))] ∧ w1 = w') ?_ ?_
  · intro J hJ
    refine bi_eql_c (fun k1 => ?_) (fun k1 => ?_)
    · (repeat with_reducible first|refine z_b ?_)
      exact hJ _ _ ⟨by rw [decide_eq_true (.inl k1)], rfl⟩
    (repeat with_reducible first|refine z_c ?_)
    refine bi_eql_c (fun k2 => ?_) (fun k2 => ?_)
    · (repeat with_reducible first|refine z_b ?_)
      exact hJ _ _ ⟨by rw [decide_eq_true (.inr (.inl k2))], rfl⟩
    (repeat with_reducible first|refine z_c ?_)
    refine bi_eql_c (fun k3 => ?_) (fun k3 => ?_)
    · (repeat with_reducible first|refine z_b ?_)
      exact hJ _ _ ⟨by rw [decide_eq_true (.inr (.inr (.inl k3)))], rfl⟩
    (repeat with_reducible first|refine z_c ?_)
    refine bi_eql ?_
    refine hJ _ _ ⟨?_, rfl⟩
    congr 2
    rw [decide_eq_decide]
    exact ⟨fun h => .inr (.inr (.inr h)), fun h => ((h.resolve_left k1).resolve_left k2).resolve_left k3⟩
  rintro _ _ ⟨rfl, rfl⟩
  dsimp only [List.headD_cons, List.tail_cons]
  refine CondP.dec (fun kk => ?_) (fun kk => ?_)
  · (repeat with_reducible first|refine fd of1 (by decide) ?_|refine ld one9 (opk1 hB _ hr) ?_)
    refine (refKey_spec o.key w1).mono ?_
    rintro _ w1' ⟨rfl, hw⟩
    have hw := hw.symm
    subst hw
    cases hkey : keyOk o.key with
    | false =>
      (repeat with_reducible first|refine z_b ?_|refine z_F ?_)
      refine fin ?_ hr
      unfold chk
      have hm := mustE_f hkey
      rcases kk with k | k | k | k
      · rw [if_pos k, firstE_1 (by omega), hm]
      · rw [if_neg (by omega), if_pos (by omega), hm]
      · rw [if_neg (by omega), if_pos (by omega), hm]
      · rw [if_neg (by omega), if_neg (by omega), if_pos k, firstE_1 (by omega), hm]
    | true =>
    have hm := mustE_t hkey
    (repeat with_reducible first|refine z_c ?_|refine z_E ?_)
    refine JoinP.cut (fun vs w' => vs = [] ∧ ((o.kind = 1 ∨ o.kind = 4) → recE o.rcd = 0) ∧ Below w1.heap.size w1 w') ?_ ?_
    · intro J hJ
      have go : ∀ {w' : World} {X : World → Prop}, w' = w1 → (o.kind = 1 ∨ o.kind = 4) → (∀ w2, Below w1.heap.size w1 w2 → recE o.rcd ≠ 0 → (Value.int .i64 (recE o.rcd) = .int .i64 (chk o) ∧ Below w.heap.size w w2)) := by
        intro w' X _ k w2 hb hne
        refine fin ?_ hb
        unfold chk
        rcases k with k | k
        · rw [if_pos k, firstE_0 hm, firstE_last]
        · rw [if_neg (by omega), if_neg (by omega), if_pos k, firstE_0 hm, firstE_1 hne]
      (repeat with_reducible first|refine fd of0 (by decide) ?_|refine ld one3 (opk0 hB _ hr) ?_)
      refine bi_eql_c (fun k1 => ?_) (fun k1 => ?_)
      · (repeat with_reducible first|refine fd of3 (by decide) ?_|refine ld oneRec (opk3 hB _ hr) ?_|refine z_b ?_|refine z_f ?_|refine z_k ?_)
        refine (refCheck_spec _ _ w1 hA.rcd).mono ?_
        rintro _ w2 ⟨rfl, hb2⟩
        refine bi_neq_c (fun hn => ?_) (fun hn => ?_)
        · (repeat with_reducible first|refine z_b ?_)
          exact go (X := fun _ => True) rfl (.inl k1) _ hb2 hn
        · (repeat with_reducible first|refine z_c ?_)
          exact hJ _ _ ⟨rfl, fun _ => hn, hb2⟩
      · (repeat with_reducible first|refine fd of0 (by decide) ?_|refine ld one3 (opk0 hB _ hr) ?_|refine z_d ?_)
        refine bi_eql_c (fun k4 => ?_) (fun k4 => ?_)
        · (repeat with_reducible first|refine fd of3 (by decide) ?_|refine ld oneRec (opk3 hB _ hr) ?_|refine z_b ?_|refine z_l ?_)
          refine (refCheck_spec _ _ w1 hA.rcd).mono ?_
          rintro _ w2 ⟨rfl, hb2⟩
          refine bi_neq_c (fun hn => ?_) (fun hn => ?_)
          · (repeat with_reducible first|refine z_b ?_)
            exact go (X := fun _ => True) rfl (.inr k4) _ hb2 hn
          · (repeat with_reducible first|refine z_c ?_)
            exact hJ _ _ ⟨rfl, fun _ => hn, hb2⟩
        · (repeat with_reducible first|refine z_c ?_|refine z_l ?_)
          exact hJ _ _ ⟨rfl, fun h => (by omega), hr⟩
    rintro _ w2 ⟨rfl, hrec, hb2⟩
    (repeat with_reducible first|refine fd of0 (by decide) ?_|refine ld one3 (opk0 hB _ hb2) ?_)
    refine bi_eql_c (fun k4 => ?_) (fun k4 => ?_)
    · have hre := hrec (.inr k4)
      have hck : chk o = oldE o.old := by
        unfold chk
        rw [if_neg (by omega), if_neg (by omega), if_pos k4, firstE_0 hm, firstE_0 hre, firstE_last]
      (repeat with_reducible first|refine fd of4 (by decide) ?_|refine ld oneRec (opk4 hB _ hb2) ?_|refine z_d ?_)
      obtain ⟨A, c, he, _⟩ := hA.old.slice
      have ho := keeps_Vals _ _ _ _ hb2 hA.old
      rw [he] at ho ⊢
      refine ln undRec ?_
      (repeat with_reducible first|refine z_d ?_)
      refine bi_gtr_c (fun hn => ?_) (fun hn => ?_)
      · (repeat with_reducible first|refine fd of4 (by decide) ?_|refine ld oneRec (opk4 hB _ hb2) ?_|refine z_b ?_|refine z_k ?_)
        rw [he]
        refine (refCheck_spec _ _ w2 ho).mono ?_
        rintro _ w3 ⟨rfl, hb3⟩
        exact fin (by rw [hck]; unfold oldE; rw [if_neg (by omega)]) (below_then hb2 hb3)
      · (repeat with_reducible first|refine z_c ?_|refine z_k ?_)
        exact fin (by rw [hck]; unfold oldE; rw [if_pos (by omega)]) hb2
    · (repeat with_reducible first|refine z_c ?_|refine z_e ?_|refine z_l ?_)
      refine fin ?_ hb2
      unfold chk
      rcases kk with k | k | k | k
      · rw [if_pos k, firstE_0 hm, firstE_last, hrec (.inl k)]
      · rw [if_neg (by omega), if_pos (by omega), hm]
      · rw [if_neg (by omega), if_pos (by omega), hm]
      · exact absurd k k4
  have n1 : ¬ o.kind = 1 := by omega
  have n2 : ¬ (o.kind = 2 ∨ o.kind = 3) := by omega
  have n4 : ¬ o.kind = 4 := by omega
  refine bi_eql_c (fun k5 => ?_) (fun k5 => ?_)
  · have hck : chk o = firstE [mustE (decide (o.key.size ≤ 16 ∧ o.to.size ≤ 16)), inE o.limit 1 64] := by unfold chk; rw [if_neg n1, if_neg n2, if_neg n4, if_pos k5]
    (repeat with_reducible first|refine fd of1 (by decide) ?_|refine ld one9 (opk1 hB _ hr) ?_|refine z_b ?_)
    refine lns und9 ?_
    refine bi_gtr_c (fun h1 => ?_) (fun h1 => ?_)
    · (repeat with_reducible first|refine z_b ?_|refine z_f ?_|refine z_k ?_)
      exact fin (by rw [hck, mustE_f (decide_eq_false (by omega)), firstE_1 (by omega)]) hr
    (repeat with_reducible first|refine fd of2 (by decide) ?_|refine ld one9 (opk2 hB _ hr) ?_|refine z_d ?_)
    refine lns und9 ?_
    (repeat with_reducible first|refine z_d ?_)
    refine bi_gtr_c (fun h2 => ?_) (fun h2 => ?_)
    · (repeat with_reducible first|refine z_b ?_|refine z_f ?_|refine z_k ?_|refine z_l ?_)
      exact fin (by rw [hck, mustE_f (decide_eq_false (by omega)), firstE_1 (by omega)]) hr
    (repeat with_reducible first|refine fd of9 (by decide) ?_|refine ld one3 (opk9 hB _ hr) ?_|refine z_d ?_|refine z_l ?_)
    refine (limit_spec o.limit w1).mono ?_
    rintro _ _ ⟨rfl, rfl⟩
    rw [mustE_t (decide_eq_true (by omega)), firstE_0 rfl, firstE_last] at hck
    (repeat with_reducible first|refine z_d ?_|refine z_l ?_|refine z_G ?_)
    by_cases hl : 1 ≤ o.limit ∧ o.limit ≤ 64
    · rw [decide_eq_true hl]
      simp only [Bool.not_true]
      (repeat with_reducible first|refine z_c ?_)
      exact fin (by rw [hck, inE_t hl]) hr
    · rw [decide_eq_false hl]
      simp only [Bool.not_false]
      (repeat with_reducible first|refine z_b ?_)
      exact fin (by rw [hck, inE_f hl]) hr
  (repeat with_reducible first|refine z_c ?_)
  refine bi_eql_c (fun k6 => ?_) (fun k6 => ?_)
  · have hck : chk o = firstE [inE o.id 1 6, rowE o.low, rowE o.high, inE o.limit 1 64] := by unfold chk; rw [if_neg n1, if_neg n2, if_neg n4, if_neg k5, if_pos k6]
    (repeat with_reducible first|refine fd of5 (by decide) ?_|refine ld one3 (opk5 hB _ hr) ?_|refine z_b ?_)
    refine bi_lss_c (fun h1 => ?_) (fun h1 => ?_)
    · (repeat with_reducible first|refine z_b ?_|refine z_f ?_|refine z_k ?_)
      have e := inE_f (n := o.id) (a := 1) (b := 6) (by omega)
      exact fin (by rw [hck, firstE_1 (by omega), e]) hr
    (repeat with_reducible first|refine fd of5 (by decide) ?_|refine ld one3 (opk5 hB _ hr) ?_|refine z_d ?_)
    refine bi_gtr_c (fun h2 => ?_) (fun h2 => ?_)
    · (repeat with_reducible first|refine z_b ?_|refine z_l ?_)
      have e := inE_f (n := o.id) (a := 1) (b := 6) (by omega)
      exact fin (by rw [hck, firstE_1 (by omega), e]) hr
    have e := inE_t (n := o.id) (a := 1) (b := 6) (by omega)
    rw [firstE_0 e] at hck
    (repeat with_reducible first|refine fd of7 (by decide) ?_|refine ld oneVs (opk7 hB _ hr) ?_|refine z_c ?_|refine z_l ?_)
    refine (refRow_spec _ _ w1 hA.low).mono ?_
    rintro _ w2 ⟨rfl, hb2⟩
    refine bi_neq_c (fun h3 => ?_) (fun h3 => ?_)
    · (repeat with_reducible first|refine z_b ?_)
      exact fin (by rw [hck, firstE_1 h3]) hb2
    rw [firstE_0 h3] at hck
    (repeat with_reducible first|refine fd of8 (by decide) ?_|refine ld oneVs (opk8 hB _ hb2) ?_|refine z_c ?_)
    refine (refRow_spec _ _ w2 (keeps_Vals _ _ _ _ hb2 hA.high)).mono ?_
    rintro _ w3 ⟨rfl, hb3⟩
    have hb13 := below_then hb2 hb3
    refine bi_neq_c (fun h4 => ?_) (fun h4 => ?_)
    · (repeat with_reducible first|refine z_b ?_)
      exact fin (by rw [hck, firstE_1 h4]) hb13
    rw [firstE_0 h4, firstE_last] at hck
    (repeat with_reducible first|refine fd of9 (by decide) ?_|refine ld one3 (opk9 hB _ hb13) ?_|refine z_c ?_)
    refine (limit_spec o.limit w3).mono ?_
    rintro _ _ ⟨rfl, rfl⟩
    by_cases hl : 1 ≤ o.limit ∧ o.limit ≤ 64
    · rw [decide_eq_true hl]
      refine bi_not ?_
      simp only [Bool.not_true]
      (repeat with_reducible first|refine z_c ?_)
      exact fin (by rw [hck, inE_t hl]) hb13
    · rw [decide_eq_false hl]
      refine bi_not ?_
      simp only [Bool.not_false]
      (repeat with_reducible first|refine z_b ?_)
      exact fin (by rw [hck, inE_f hl]) hb13
  (repeat with_reducible first|refine z_c ?_)
  refine bi_eql_c (fun k7 => ?_) (fun k7 => ?_)
  · (repeat with_reducible first|refine fd of6 (by decide) ?_|refine ld oneIs (opk6 hB _ hr) ?_|refine z_b ?_)
    have hfr := (ints_rd hA.fields).1
    obtain ⟨A, c, he, _⟩ := hfr.slice
    rw [he] at hfr ⊢
    refine bd (cells := #[.int .i64 1, .slice A (iV o.fields).length c]) (by kernel_rfl) ?_
    refine (CheckIndex34 1 _ _ w1 hfr).mono ?_
    rintro _ w7 ⟨rfl, hb7⟩
    exact fin (by unfold chk; rw [if_neg n1, if_neg n2, if_neg n4, if_neg k5, if_neg k6, if_pos k7]) hb7
  (repeat with_reducible first|refine z_c ?_)
  refine bi_eql_c (fun k8 => ?_) (fun k8 => ?_)
  · have hck : chk o = inE o.id 1 6 := by unfold chk; rw [if_neg n1, if_neg n2, if_neg n4, if_neg k5, if_neg k6, if_neg k7, if_pos k8]
    (repeat with_reducible first|refine fd of5 (by decide) ?_|refine ld one3 (opk5 hB _ hr) ?_|refine z_b ?_)
    refine bi_lss_c (fun h1 => ?_) (fun h1 => ?_)
    · (repeat with_reducible first|refine z_b ?_|refine z_f ?_|refine z_k ?_)
      exact fin (by rw [hck, inE_f (by omega)]) hr
    (repeat with_reducible first|refine fd of5 (by decide) ?_|refine ld one3 (opk5 hB _ hr) ?_|refine z_d ?_)
    refine bi_gtr_c (fun h2 => ?_) (fun h2 => ?_)
    · (repeat with_reducible first|refine z_b ?_|refine z_l ?_)
      exact fin (by rw [hck, inE_f (by omega)]) hr
    · (repeat with_reducible first|refine z_c ?_|refine z_l ?_)
      exact fin (by rw [hck, inE_t (by omega)]) hr
  (repeat with_reducible first|refine z_c ?_)
  refine JoinP.cut (fun vs w' => vs = [.bool (decide (o.kind = 9 ∨ o.kind = 10 ∨ o.kind = 11))] ∧ w1 = w') ?_ ?_
  · intro J hJ
    refine bi_eql_c (fun k1 => ?_) (fun k1 => ?_)
    · (repeat with_reducible first|refine z_b ?_)
      exact hJ _ _ ⟨by rw [decide_eq_true (.inl k1)], rfl⟩
    (repeat with_reducible first|refine z_c ?_)
    refine bi_eql_c (fun k2 => ?_) (fun k2 => ?_)
    · (repeat with_reducible first|refine z_b ?_)
      exact hJ _ _ ⟨by rw [decide_eq_true (.inr (.inl k2))], rfl⟩
    (repeat with_reducible first|refine z_c ?_)
    refine bi_eql ?_
    refine hJ _ _ ⟨?_, rfl⟩
    congr 2
    rw [decide_eq_decide]
    exact ⟨fun h => .inr (.inr h), fun h => (h.resolve_left k1).resolve_left k2⟩
  rintro _ _ ⟨rfl, rfl⟩
  dsimp only [List.headD_cons, List.tail_cons]
  refine CondP.dec (fun kk9 => ?_) (fun kk9 => ?_)
  · have n12 := chk_net n1 n2 n4 k5 k6 k7 k8 kk9
    have no : ¬ ((o.space = 0 ∨ o.space = 1) ∧ o.key.size ≤ 100 ∧ (o.kind ≠ 11 → o.key.size ≠ 0) ∧ (o.kind = 11 → 1 ≤ o.node ∧ o.node ≤ 4)) → chk o = 1 := fun h => by rw [n12, if_neg h]
    have yes : ((o.space = 0 ∨ o.space = 1) ∧ o.key.size ≤ 100 ∧ (o.kind ≠ 11 → o.key.size ≠ 0) ∧ (o.kind = 11 → 1 ≤ o.node ∧ o.node ≤ 4)) → chk o = 0 := fun h => by rw [n12, if_pos h]
    have hsz : o.key.data.toList = [] ↔ o.key.size = 0 := by
      rw [← List.length_eq_zero_iff]
      exact Iff.rfl
    by_cases hs : o.space = 0 ∨ o.space = 1
    · rcases hs with hs | hs
      all_goals
        (repeat with_reducible first|refine fd of10 (by decide) ?_|refine ld one3 (opk10 hB _ hr) ?_|refine z_d ?_|refine z_e ?_|refine z_k ?_|refine z_l ?_|refine z_s (by omega) ?_|refine z_t (by omega) ?_)
        (repeat with_reducible first|refine fd of1 (by decide) ?_|refine ld one9 (opk1 hB _ hr) ?_|refine z_d ?_)
        refine lns und9 ?_
        (repeat with_reducible first|refine z_d ?_)
        refine bi_gtr_c (fun h1 => ?_) (fun h1 => ?_)
        · (repeat with_reducible first|refine z_b ?_|refine z_f ?_|refine z_g ?_|refine z_k ?_|refine z_l ?_)
          exact fin (no (by omega)) hr
        (repeat with_reducible first|refine fd of0 (by decide) ?_|refine ld one3 (opk0 hB _ hr) ?_|refine z_d ?_|refine z_l ?_)
        refine bi_neq_c (fun h2 => ?_) (fun h2 => ?_)
        · (repeat with_reducible first|refine fd of1 (by decide) ?_|refine ld one9 (opk1 hB _ hr) ?_|refine z_d ?_)
          refine bi_seql_c (fun h3 => ?_) (fun h3 => ?_)
          · (repeat with_reducible first|refine z_b ?_|refine z_d ?_|refine z_f ?_|refine z_g ?_|refine z_k ?_|refine z_l ?_)
            exact fin (no (by have := hsz.1 h3; omega)) hr
          · (repeat with_reducible first|refine fd of0 (by decide) ?_|refine ld one3 (opk0 hB _ hr) ?_|refine z_c ?_|refine z_d ?_|refine z_e ?_|refine z_g ?_|refine z_k ?_|refine z_l ?_|refine z_r (by omega) ?_)
            exact fin (yes (by have : ¬ o.key.size = 0 := fun e => h3 (hsz.2 e); omega)) hr
        · have h2 : o.kind = 11 := h2
          (repeat with_reducible first|refine fd of0 (by decide) ?_|refine ld one3 (opk0 hB _ hr) ?_|refine fd of11 (by decide) ?_|refine ld one3 (opk11 hB _ hr) ?_|refine z_d ?_|refine z_e ?_|refine z_l ?_|refine z_q (by omega) ?_)
          refine bi_lss_c (fun h3 => ?_) (fun h3 => ?_)
          · (repeat with_reducible first|refine z_b ?_|refine z_d ?_|refine z_f ?_|refine z_k ?_|refine z_l ?_)
            exact fin (no (by omega)) hr
          (repeat with_reducible first|refine fd of11 (by decide) ?_|refine ld one3 (opk11 hB _ hr) ?_|refine z_d ?_)
          refine bi_gtr_c (fun h4 => ?_) (fun h4 => ?_)
          · (repeat with_reducible first|refine z_b ?_|refine z_d ?_|refine z_k ?_|refine z_l ?_)
            exact fin (no (by omega)) hr
          · (repeat with_reducible first|refine z_c ?_|refine z_d ?_|refine z_k ?_|refine z_l ?_)
            exact fin (yes (by omega)) hr
    · (repeat with_reducible first|refine fd of10 (by decide) ?_|refine ld one3 (opk10 hB _ hr) ?_|refine z_b ?_|refine z_d ?_|refine z_f ?_|refine z_g ?_|refine z_k ?_|refine z_s (by omega) ?_)
      exact fin (no (by omega)) hr
  refine bi_eql_c (fun k12 => ?_) (fun k12 => ?_)
  · (repeat with_reducible first|refine z_b ?_)
    exact fin (by unfold chk; rw [if_neg n1, if_neg n2, if_neg n4, if_neg k5, if_neg k6, if_neg k7, if_neg k8, if_neg (by omega), if_neg (by omega), if_pos k12]) hr
  · (repeat with_reducible first|refine z_c ?_)
    exact fin (by unfold chk; rw [if_neg n1, if_neg n2, if_neg n4, if_neg k5, if_neg k6, if_neg k7, if_neg k8, if_neg (by omega), if_neg (by omega), if_neg k12]) hr
end Go.Proofs.YtonblppkidpmlaaGreatDoor.E
