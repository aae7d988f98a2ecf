import Derived.Test.YtonblppkidpmlaaGreatDoorMr
namespace Go.Proofs.YtonblppkidpmlaaGreatDoor.E
open Go Go.RowKit
set_option linter.unusedSimpArgs false
set_option linter.unusedVariables false

theorem PlAt.re2 {hu : Nat} {c c' : Nat → Nat} {w : World} {g b : Nat} {vX : Value} {M : List Mm} {X : List Xm} (h : PlAt hu c w g b vX M X) (hc : ∀ k, c k = hu ∨ c k = 999 → c' k = c k) : PlAt hu c' w g b vX M X :=
  ⟨h.pos, h.blk, h.map, (hc _ (.inl h.cg)).trans h.cg, (hc _ (.inl h.cb)).trans h.cb, fun m hm => ⟨(h.ms m hm).rd, (h.ms m hm).col.imp id fun hC k hk => (hc _ (.inr (hC k hk))).trans (hC k hk)⟩, h.xs, fun k hk => (hc _ (.inl (h.cx k hk))).trans (h.cx k hk),
    fun x hx => ⟨(h.xm x hx).rd, (h.xm x hx).col.imp id fun hC k hk => (hc _ (.inr (hC k hk))).trans (hC k hk)⟩⟩
noncomputable def entC (R : RowsT) (k : Txt) : Option (Txt × List ValT) := (T.getK k R).bind fun r => some (k, r)
set_option maxHeartbeats 2000000 in
theorem Copy31 {hu hu' : Nat} (hh : 0 < hu' ∧ hu' < 999) {c : Nat → Nat} {w : World} {g n : Nat} {S : StT} (hS : PlS hu c w g S) (hok : StOk n S) (hn : n ≤ 100000) :
    CallP Tryz.prog 31 #[.pointer (some ⟨g, 0, none⟩)] (fun r w' => ∃ g' c', r = .pointer (some ⟨g', 0, none⟩) ∧ (∀ k, k < w.heap.size → c' k = c k) ∧ PlS hu' c' w' g' S ∧ Below w.heap.size w w') w := by
  obtain ⟨b, vX, M, X, h, hp, hX, hids⟩ := hS
  have hXl := X_len hX
  have hx6 := hok.xmany
  have hML : M.length = S.R.length := by rw [← hp.length_eq, List.length_map]
  have hmany := hok.many
  have hnod : (M.map (·.1)).Nodup := by rw [← keys_mkv]; exact h.map.nodup
  refine ⟨S31.calls _ _ _ ?_⟩
  unfold S31
  refine (New14 hu' hh (fun _ => 0) w).mono ?_
  rintro _ w1 ⟨g', d1, rfl, hd1, hS1, hb1⟩
  obtain ⟨b', vX', M0, X0, hP1, hp1, hX1, _⟩ := hS1
  have hM0 : M0 = [] := by
    have := hp1.length_eq
    rw [List.length_map] at this
    exact List.eq_nil_of_length_eq_zero this
  have hX0 : X0 = [] := by
    have := congrArg List.length hX1
    rw [List.length_map] at this
    exact List.eq_nil_of_length_eq_zero this
  subst hM0; subst hX0
  have h1 := h.below hb1
  have q0 : w1.cell? ⟨g, 0, none⟩ = some (.map (some b)) := h1.blk.cell 0
  (repeat with_reducible first | refine fd p0 (by decide) ?_| refine ld oneMp q0 ?_|refine z_a ?_|refine z_b ?_|refine z_c ?_|refine z_d ?_|refine z_e ?_|refine z_f ?_|refine z_g ?_|refine z_h ?_|refine z_i ?_|refine z_j ?_|refine z_k ?_|refine z_l ?_|refine z_m (by omega) ?_|refine z_n (by omega) ?_|refine z_o (by omega) ?_|refine z_p (by omega) ?_|refine z_q (by omega) ?_|refine z_r (by omega) ?_|refine z_s (by omega) ?_|refine z_t (by omega) ?_|refine z_u (by omega) ?_|refine z_v (by omega) ?_|refine z_w (by omega) ?_|refine z_x (by omega) ?_|refine z_y (by omega) ?_|refine z_z (by omega) ?_|refine z_A ?_|refine z_B ?_|refine z_C ?_|refine z_D ?_|refine z_E ?_|refine z_F ?_|refine z_G ?_|refine z_H ?_|refine z_I ?_|refine z_J ?_|refine z_K (by omega) (by decide) ?_|refine z_L (by omega) (by decide) ?_|refine z_M (by omega) ?_|refine z_N (by omega) ?_|refine z_O (by omega) ?_|refine z_P ?_|refine z_Q ?_|refine z_R ?_|refine z_S ?_|refine z_T ?_|refine z_U (by decide) ?_|refine z_V (by decide) ?_)
  refine T.rng undMp h1.map ?_
  intro w2 hit hb2
  rw [keys_mkv] at hit
  have hb02 := below_then hb1 hb2
  have hs1 := hb1.size
  refine LoopP.inv0n (fun n w' => ∃ (todo dn : List Txt) (M' : List Mm) (d : Nat → Nat), todo.length = n ∧ T.MapR w' b w1.heap.size (M.map mkv) todo ∧ dn.Nodup ∧ (∀ k, k ∈ dn ↔ k ∈ M.map (·.1) ∧ k ∉ todo) ∧ M'.map (·.1) = dn ∧ M'.map mkr = dn.filterMap (entC (M.map mkr)) ∧ (∀ k, k < w.heap.size → d k = 0) ∧ d w1.heap.size = 0 ∧ PlAt hu' d w' g' b' vX' M' [] ∧ Below w.heap.size w w') _
    ⟨M.map (·.1), [], [], col d1 w1.heap.size 0, rfl, hit, by simp, by simp, rfl, rfl, fun k hk => by rw [col_lt _ _ _ k (by omega)]; exact hd1 k hk, col_ge _ _ _ (Nat.le_refl _), (hP1.re (col_lt _ _ _)).below hb2, hb02⟩ ?_
  rintro n' w3 ⟨todo, dn, M', d, rfl, hit, hdn, hmem, hkeys, hM', hd0, hdr0, hP, hb3⟩ J hJ
  have hdl : dn.length ≤ M.length := by
    have h2 : dn.length ≤ (M.map (·.1)).length := nodup_len hdn hnod fun k hk => ((hmem k).1 hk).1
    rw [List.length_map] at h2
    exact h2
  have hM'l : M'.length = dn.length := by rw [← hkeys, List.length_map]
  have hgb : w.heap.size ≤ b' ∧ w.heap.size ≤ g' ∧ b' ≠ w1.heap.size := by
    have h1 := hP.cb
    have h2 := hP.cg
    refine ⟨Nat.le_of_not_lt fun e => ?_, Nat.le_of_not_lt fun e => ?_, fun e => ?_⟩
    · rw [hd0 _ e] at h1; omega
    · rw [hd0 _ e] at h2; omega
    · rw [e, hdr0] at h1; omega
  refine T.nxt hit (fun h0 => ?_) ?_
  · -- all records are copied
    have hdk := nil_iff_sub hdn hnod hmem h0
    have hperm : (M'.map mkr).Perm S.R := by
      rw [hM']
      refine ((hdk.filterMap _).trans ?_).trans hp
      rw [← keys_mkr]
      refine List.Perm.of_eq ((filterMap_keys (fun p => some p) (M.map mkr) (by rw [keys_mkr]; exact hnod)).trans ?_)
      simp
    clear hit hmem hdn hM' hkeys hM'l hdl hJ
    have h3 := h.below hb3
    obtain ⟨A, cX, hvX, _⟩ := (OwnR.of_own h3.xs).slice
    have q1 : w3.cell? ⟨g, 1, none⟩ = some (.slice A X.length cX) := by rw [← hvX]; exact h3.blk.cell 1
    (repeat with_reducible first | refine fd p1 (by decide) ?_| refine ld oneXs q1 ?_|refine z_a ?_|refine z_b ?_|refine z_c ?_|refine z_d ?_|refine z_e ?_|refine z_f ?_|refine z_g ?_|refine z_h ?_|refine z_i ?_|refine z_j ?_|refine z_k ?_|refine z_l ?_|refine z_m (by omega) ?_|refine z_n (by omega) ?_|refine z_o (by omega) ?_|refine z_p (by omega) ?_|refine z_q (by omega) ?_|refine z_r (by omega) ?_|refine z_s (by omega) ?_|refine z_t (by omega) ?_|refine z_u (by omega) ?_|refine z_v (by omega) ?_|refine z_w (by omega) ?_|refine z_x (by omega) ?_|refine z_y (by omega) ?_|refine z_z (by omega) ?_|refine z_A ?_|refine z_B ?_|refine z_C ?_|refine z_D ?_|refine z_E ?_|refine z_F ?_|refine z_G ?_|refine z_H ?_|refine z_I ?_|refine z_J ?_|refine z_K (by omega) (by decide) ?_|refine z_L (by omega) (by decide) ?_|refine z_M (by omega) ?_|refine z_N (by omega) ?_|refine z_O (by omega) ?_|refine z_P ?_|refine z_Q ?_|refine z_R ?_|refine z_S ?_|refine z_T ?_|refine z_U (by decide) ?_|refine z_V (by decide) ?_)
    refine ln undSt ?_
    refine LoopP.inv1 (fun iv w' => ∃ (i : Nat) (X' : List Xm) (d : Nat → Nat) (vY : Value), i ≤ X.length ∧ iv = .int .i64 i ∧ X'.map xmP = (X.take i).map xmP ∧ (∀ k, k < w.heap.size → d k = 0) ∧ PlAt hu' d w' g' b' vY M' X' ∧ Below w.heap.size w w') (fun iv _ => X.length - (intOf iv).toNat) ⟨0, [], d, vX', by omega, rfl, by simp, hd0, hP, hb3⟩ ?_
    clear hd0 hdr0 hP hb3 h3 q1
    rintro _ w4 ⟨i, X', d, vY, hi, rfl, hX', hd0, hP, hb4⟩ J hJ
    dsimp only [List.headD_cons, List.tail_cons]
    have hX'l : X'.length = i := by
      have := congrArg List.length hX'
      rw [List.length_map, List.length_map, List.length_take] at this
      omega
    refine bi_lss_c (fun h2 => ?_) (fun h2 => ?_)
    rotate_left
    · have : i = X.length := by omega
      subst this
      rw [List.take_length] at hX'
      (repeat with_reducible first|refine z_a ?_|refine z_b ?_|refine z_c ?_|refine z_d ?_|refine z_e ?_|refine z_f ?_|refine z_g ?_|refine z_h ?_|refine z_i ?_|refine z_j ?_|refine z_k ?_|refine z_l ?_|refine z_m (by omega) ?_|refine z_n (by omega) ?_|refine z_o (by omega) ?_|refine z_p (by omega) ?_|refine z_q (by omega) ?_|refine z_r (by omega) ?_|refine z_s (by omega) ?_|refine z_t (by omega) ?_|refine z_u (by omega) ?_|refine z_v (by omega) ?_|refine z_w (by omega) ?_|refine z_x (by omega) ?_|refine z_y (by omega) ?_|refine z_z (by omega) ?_|refine z_A ?_|refine z_B ?_|refine z_C ?_|refine z_D ?_|refine z_E ?_|refine z_F ?_|refine z_G ?_|refine z_H ?_|refine z_I ?_|refine z_J ?_|refine z_K (by omega) (by decide) ?_|refine z_L (by omega) (by decide) ?_|refine z_M (by omega) ?_|refine z_N (by omega) ?_|refine z_O (by omega) ?_|refine z_P ?_|refine z_Q ?_|refine z_R ?_|refine z_S ?_|refine z_T ?_|refine z_U (by decide) ?_|refine z_V (by decide) ?_)
      refine ⟨g', fun k => if k < w.heap.size then c k else d k, rfl, fun k hk => if_pos hk, ⟨b', vY, M', X', hP.re2 fun k hk => ?_, hperm, ?_, ?_⟩, hb4⟩
      · refine if_neg fun e => ?_
        rw [hd0 k e] at hk
        omega
      · rw [← hX]
        have := congrArg (List.map (·.2)) hX'
        simp only [List.map_map] at this
        exact this
      · intro j x hx
        have h5 : (X'.map xmP)[j]? = some (xmP x) := by rw [List.getElem?_map, hx]; rfl
        rw [hX', List.getElem?_map] at h5
        obtain ⟨y, hy, he⟩ := Option.map_eq_some_iff.1 h5
        have := hids j y hy
        have h6 : y.id = x.id := congrArg Prod.fst he
        omega
    have hi' : i < X.length := by omega
    have h4 := h.below hb4
    obtain ⟨gx, cx, he, hcell⟩ := rowAt xmF_len (OwnR.of_own h4.xs) i hi' (by decide)
    rw [hvX] at he
    cases he
    have hSx : i < S.X.length := by omega
    have hSe : S.X[i] = X[i].fs := by
      have : (X.map (·.fs))[i]? = S.X[i]? := by rw [hX]
      rw [List.getElem?_map, List.getElem?_eq_getElem hi', List.getElem?_eq_getElem hSx] at this
      exact (Option.some.inj this).symm
    have hfs2 : X[i].fs.length ≤ 2 := by rw [← hSe]; exact ckI_small (hok.xs _ (List.getElem_mem hSx))
    have hrd := (h4.xm X[i] (List.getElem_mem hi')).rd
    obtain ⟨Af, cf, hfv, _⟩ := hrd.slice
    have hfl : (iV X[i].fs).length = X[i].fs.length := List.length_map _
    rw [hfl] at hfv
    (repeat with_reducible first|refine z_a ?_|refine z_b ?_|refine z_c ?_|refine z_d ?_|refine z_e ?_|refine z_f ?_|refine z_g ?_|refine z_h ?_|refine z_i ?_|refine z_j ?_|refine z_k ?_|refine z_l ?_|refine z_m (by omega) ?_|refine z_n (by omega) ?_|refine z_o (by omega) ?_|refine z_p (by omega) ?_|refine z_q (by omega) ?_|refine z_r (by omega) ?_|refine z_s (by omega) ?_|refine z_t (by omega) ?_|refine z_u (by omega) ?_|refine z_v (by omega) ?_|refine z_w (by omega) ?_|refine z_x (by omega) ?_|refine z_y (by omega) ?_|refine z_z (by omega) ?_|refine z_A ?_|refine z_B ?_|refine z_C ?_|refine z_D ?_|refine z_E ?_|refine z_F ?_|refine z_G ?_|refine z_H ?_|refine z_I ?_|refine z_J ?_|refine z_K (by omega) (by decide) ?_|refine z_L (by omega) (by decide) ?_|refine z_M (by omega) ?_|refine z_N (by omega) ?_|refine z_O (by omega) ?_|refine z_P ?_|refine z_Q ?_|refine z_R ?_|refine z_S ?_|refine z_T ?_|refine z_U (by decide) ?_|refine z_V (by decide) ?_)
    refine ixG undSt szIx i hi' ?_
    refine ldR (us := xmF X[i]) aggIx (fun j u hu => by rw [add0]; exact hcell j u hu) (by rw [szIx]; rfl) ?_
    refine cpB zIx (cells := (xmF X[i]).toArray) (by rw [szIx]; rfl) (by rfl) (allOne (by unfold xmF; rw [hfv]; rfl)) ?_
    intro g7 w5 hg7 hB7 hb5
    obtain ⟨Ay, cy, hvY, _⟩ := (OwnR.of_own hP.xs).slice
    have hP5 := hP.below hb5
    have hdr : Below w5.heap.size w5 w5.drew := (Below.refl _ _).drew
    obtain ⟨S0, hS0⟩ : ∃ S0 : World → Prop, S0 = fun w' => w'.cell? ⟨g', 1, none⟩ = some (.slice Ay X'.length cy) ∧ Blk w' g7 53 (xmF X[i]).toArray := ⟨_, rfl⟩
    have yS : ∀ w', Below w5.heap.size w5 w' → S0 w' := fun w' hb => by rw [hS0, ← hvY]; exact ⟨(hP5.blk.below' hb).cell 1, hB7.below' hb⟩
    have yr1 : ∀ w', S0 w' → w'.cell? ⟨g', 1, none⟩ = some (.slice Ay X'.length cy) := fun w' hb => by rw [hS0] at hb; exact hb.1
    have r0 : ∀ w', S0 w' → w'.cell? ⟨g7, 0, none⟩ = some (.int .i64 X[i].id) := fun w' hb => by rw [hS0] at hb; exact hb.2.cell 0
    have r1 : ∀ w', S0 w' → w'.cell? ⟨g7, 1, none⟩ = some (.slice Af X[i].fs.length cf) := fun w' hb => by rw [hS0] at hb; rw [← hfv]; exact hb.2.cell 1
    refine draw S0 (yS _ hdr) ?_
    generalize w5.drew = wd at *
    (repeat with_reducible first | refine yfd p1 (by decide) ?_| refine yl1 oneXs yr1 ?_| refine yfd x0 (by decide) ?_| refine yl1 one3 r0 ?_| refine yfd x1 (by decide) ?_| refine yl1 oneIs r1 ?_|refine z_W ?_|refine z_a ?_|refine z_b ?_|refine z_c ?_|refine z_d ?_|refine z_e ?_|refine z_f ?_|refine z_g ?_|refine z_h ?_|refine z_i ?_|refine z_j ?_|refine z_k ?_|refine z_l ?_|refine z_X (by omega) ?_|refine z_Y (by omega) ?_|refine z_Z (by omega) ?_|refine z_a1 (by omega) ?_|refine z_b1 (by omega) ?_|refine z_c1 (by omega) ?_|refine z_d1 (by omega) ?_|refine z_e1 (by omega) ?_|refine z_f1 (by omega) ?_|refine z_g1 (by omega) ?_|refine z_h1 (by omega) ?_|refine z_i1 (by omega) ?_|refine z_j1 (by omega) ?_|refine z_k1 (by omega) ?_|refine z_l1 ?_|refine z_m1 ?_|refine z_n1 ?_|refine z_o1 ?_|refine z_p1 ?_|refine z_q1 ?_|refine z_r1 ?_|refine z_s1 ?_|refine z_t1 ?_|refine z_u1 ?_|refine z_v1 (by omega) (by decide) ?_|refine z_w1 (by omega) (by decide) ?_|refine z_x1 (by omega) ?_|refine z_y1 (by omega) ?_|refine z_z1 (by omega) ?_|refine z_A1 ?_|refine z_B1 ?_|refine z_C1 ?_|refine z_D1 ?_|refine z_E1 ?_|refine z_F1 (by decide) ?_|refine z_G1 (by decide) ?_)
    refine act ?_
    have hb45d := below_then hb5 hdr
    refine (Clone28 _ X[i].fs (by omega) wd (by rw [← hfv]; exact hrd.below hb45d)).mono ?_
    rintro vc w6 ⟨hoc, hfc, hb6⟩
    have hb56 := below_then hdr hb6
    refine ⟨_, yS _ hb56, fun _ h => h, ?_⟩
    have hb46 := below_then hb5 hb56
    have hs4 := hb4.size
    have hs5 := hb5.size
    have hsd := hdr.size
    have hs6 := hb6.size
    have hP6 : PlAt hu' (col d w4.heap.size 999) w6 g' b' vY M' X' := (hP.re (col_lt _ _ _)).below hb46
    have hFS : FS 999 (col d w4.heap.size 999) w6 vc X[i].fs := ⟨hoc.rd, .inr fun k hk => col_ge _ _ _ (by have := hfc k hk; omega)⟩
    obtain ⟨Ac, cc, rfl⟩ := hoc.slice
    refine ybd (cells := (xmF ⟨X[i].id, .slice Ac (iV X[i].fs).length cc, X[i].fs⟩).toArray) (by kernel_rfl) ?_
    rw [← hvY]
    refine apOneA (us := xmF ⟨X[i].id, .slice Ac (iV X[i].fs).length cc, X[i].fs⟩) undSt infIx (by rfl) (by decide) hP6.xs rfl (fun u hu => by
      simp only [xmF, List.mem_cons, List.not_mem_nil, or_false] at hu
      rcases hu with rfl | rfl <;> rfl) (by omega) (by omega) (by kernel_rfl) (fun w' hb => yS _ (below_then hb56 hb)) ?_
    intro v7 w7 ho7 hbl7 hT7
    obtain ⟨hB8, hP8, hT8⟩ := hP6.growX ⟨X[i].id, .slice Ac (iV X[i].fs).length cc, X[i].fs⟩ hFS ho7 hbl7 hT7
    have hvw : ∀ k, vY.ownBlock = some k → k < w4.heap.size := fun k hk => ownsRow_lt hP.xs hk
    refine ⟨S0, by rw [hS0, ← hvY]; exact ⟨hB8.cell 1, (hB7.below' hb56).turns hT7 fun e => by have := hvw _ e; omega⟩, fun _ h => h, ?_⟩
    (repeat with_reducible first | refine yfd p1 (by decide) ?_|refine z_W ?_|refine z_a ?_|refine z_b ?_|refine z_c ?_|refine z_d ?_|refine z_e ?_|refine z_f ?_|refine z_g ?_|refine z_h ?_|refine z_i ?_|refine z_j ?_|refine z_k ?_|refine z_l ?_|refine z_X (by omega) ?_|refine z_Y (by omega) ?_|refine z_Z (by omega) ?_|refine z_a1 (by omega) ?_|refine z_b1 (by omega) ?_|refine z_c1 (by omega) ?_|refine z_d1 (by omega) ?_|refine z_e1 (by omega) ?_|refine z_f1 (by omega) ?_|refine z_g1 (by omega) ?_|refine z_h1 (by omega) ?_|refine z_i1 (by omega) ?_|refine z_j1 (by omega) ?_|refine z_k1 (by omega) ?_|refine z_l1 ?_|refine z_m1 ?_|refine z_n1 ?_|refine z_o1 ?_|refine z_p1 ?_|refine z_q1 ?_|refine z_r1 ?_|refine z_s1 ?_|refine z_t1 ?_|refine z_u1 ?_|refine z_v1 (by omega) (by decide) ?_|refine z_w1 (by omega) (by decide) ?_|refine z_x1 (by omega) ?_|refine z_y1 (by omega) ?_|refine z_z1 (by omega) ?_|refine z_A1 ?_|refine z_B1 ?_|refine z_C1 ?_|refine z_D1 ?_|refine z_E1 ?_|refine z_F1 (by decide) ?_|refine z_G1 (by decide) ?_)
    have hv7 : v7.oneCell' = true := by
      obtain ⟨A6, c6, rfl, _⟩ := (OwnR.of_own ho7).slice
      rfl
    refine st szXs hv7 (by rw [hB8.cell 1]; rfl) (hB8.frozen 1) ?_
    generalize w7.setCell ⟨g', 1, none⟩ v7 = w8 at *
    (repeat with_reducible first|refine z_a ?_|refine z_b ?_|refine z_c ?_|refine z_d ?_|refine z_e ?_|refine z_f ?_|refine z_g ?_|refine z_h ?_|refine z_i ?_|refine z_j ?_|refine z_k ?_|refine z_l ?_|refine z_m (by omega) ?_|refine z_n (by omega) ?_|refine z_o (by omega) ?_|refine z_p (by omega) ?_|refine z_q (by omega) ?_|refine z_r (by omega) ?_|refine z_s (by omega) ?_|refine z_t (by omega) ?_|refine z_u (by omega) ?_|refine z_v (by omega) ?_|refine z_w (by omega) ?_|refine z_x (by omega) ?_|refine z_y (by omega) ?_|refine z_z (by omega) ?_|refine z_A ?_|refine z_B ?_|refine z_C ?_|refine z_D ?_|refine z_E ?_|refine z_F ?_|refine z_G ?_|refine z_H ?_|refine z_I ?_|refine z_J ?_|refine z_K (by omega) (by decide) ?_|refine z_L (by omega) (by decide) ?_|refine z_M (by omega) ?_|refine z_N (by omega) ?_|refine z_O (by omega) ?_|refine z_P ?_|refine z_Q ?_|refine z_R ?_|refine z_S ?_|refine z_T ?_|refine z_U (by decide) ?_|refine z_V (by decide) ?_)
    have hd6 : ∀ k, k < w.heap.size → col d w4.heap.size 999 k = 0 := fun k hk => by rw [col_lt _ _ _ k (by omega)]; exact hd0 k hk
    refine hJ _ _ ⟨i + 1, _, _, v7, by omega, by simp, ?_, fun k hk => ?_, hP8, (below_then hb4 hb46).trans (hT8.below (by omega) fun k hk e => ?_)⟩ (by simp [intOf]; omega)
    · rw [List.map_append, hX', List.take_succ_eq_append_getElem hi', List.map_append]
      rfl
    · rw [col_lt _ _ _ k (by omega)]
      exact hd6 k hk
    · have e : col d w4.heap.size 999 k = hu' := e
      rw [hd6 k hk] at e
      omega
  · intro k v w4 hk hget hit4 hT4 hent
    have hb4 : Below w.heap.size w w4 := below_own hb3 hT4 hs1
    have hP4 : PlAt hu' d w4 g' b' vX' M' [] := hP.turns hT4 fun j hj => by rw [hj, hdr0]; omega
    rw [getK_mkv] at hget
    obtain ⟨⟨v', rec⟩, hgM, he⟩ := Option.map_eq_some_iff.1 hget
    simp only at he
    subst he
    have hmM := getT_mem hgM
    have hkM : k ∈ M.map (·.1) := List.mem_map.2 ⟨_, hmM, rfl⟩
    have hrec : T.getK k (M.map mkr) = some rec := by rw [getK_mkr, hgM]; rfl
    have hVS := (h.ms _ hmM).rd
    have hkdn : k ∉ dn := fun e => ((hmem k).1 e).2 hk
    have hmem' : ∀ j, j ∈ dn ++ [k] ↔ j ∈ M.map (·.1) ∧ j ∉ todo.filter (fun j => decide (j ≠ k)) := fun j => by
      rw [List.mem_append, hmem, List.mem_filter, List.mem_singleton]
      constructor
      · rintro (⟨h1, h2⟩ | rfl)
        · exact ⟨h1, fun e => h2 e.1⟩
        · exact ⟨hkM, fun e => by simp at e⟩
      · rintro ⟨h1, h2⟩
        by_cases e : j = k
        · exact .inr e
        · exact .inl ⟨h1, fun e' => h2 ⟨e', by simpa using e⟩⟩
    have hdn' : (dn ++ [k]).Nodup := by
      rw [List.nodup_append]
      exact ⟨hdn, by simp, fun a ha b hb e => by simp at hb; rw [e, hb] at ha; exact hkdn ha⟩
    have hlt : (todo.filter (fun j => decide (j ≠ k))).length < todo.length := by
      rw [← List.countP_eq_length_filter]
      refine Nat.lt_of_le_of_ne List.countP_le_length fun e => ?_
      rw [List.countP_eq_length] at e
      simpa using e k hk
    have hin : (k, rec) ∈ S.R := hp.mem_iff.1 (List.mem_map.2 ⟨_, hmM, rfl⟩)
    have hkl := (hok.keys _ hin).2
    have hrl := hok.recl _ hin
    (repeat with_reducible first|refine z_a ?_|refine z_b ?_|refine z_c ?_|refine z_d ?_|refine z_e ?_|refine z_f ?_|refine z_g ?_|refine z_h ?_|refine z_i ?_|refine z_j ?_|refine z_k ?_|refine z_l ?_|refine z_m (by omega) ?_|refine z_n (by omega) ?_|refine z_o (by omega) ?_|refine z_p (by omega) ?_|refine z_q (by omega) ?_|refine z_r (by omega) ?_|refine z_s (by omega) ?_|refine z_t (by omega) ?_|refine z_u (by omega) ?_|refine z_v (by omega) ?_|refine z_w (by omega) ?_|refine z_x (by omega) ?_|refine z_y (by omega) ?_|refine z_z (by omega) ?_|refine z_A ?_|refine z_B ?_|refine z_C ?_|refine z_D ?_|refine z_E ?_|refine z_F ?_|refine z_G ?_|refine z_H ?_|refine z_I ?_|refine z_J ?_|refine z_K (by omega) (by decide) ?_|refine z_L (by omega) (by decide) ?_|refine z_M (by omega) ?_|refine z_N (by omega) ?_|refine z_O (by omega) ?_|refine z_P ?_|refine z_Q ?_|refine z_R ?_|refine z_S ?_|refine z_T ?_|refine z_U (by decide) ?_|refine z_V (by decide) ?_)
    refine lift hent ?_
    (repeat with_reducible first|refine z_a ?_|refine z_b ?_|refine z_c ?_|refine z_d ?_|refine z_e ?_|refine z_f ?_|refine z_g ?_|refine z_h ?_|refine z_i ?_|refine z_j ?_|refine z_k ?_|refine z_l ?_|refine z_m (by omega) ?_|refine z_n (by omega) ?_|refine z_o (by omega) ?_|refine z_p (by omega) ?_|refine z_q (by omega) ?_|refine z_r (by omega) ?_|refine z_s (by omega) ?_|refine z_t (by omega) ?_|refine z_u (by omega) ?_|refine z_v (by omega) ?_|refine z_w (by omega) ?_|refine z_x (by omega) ?_|refine z_y (by omega) ?_|refine z_z (by omega) ?_|refine z_A ?_|refine z_B ?_|refine z_C ?_|refine z_D ?_|refine z_E ?_|refine z_F ?_|refine z_G ?_|refine z_H ?_|refine z_I ?_|refine z_J ?_|refine z_K (by omega) (by decide) ?_|refine z_L (by omega) (by decide) ?_|refine z_M (by omega) ?_|refine z_N (by omega) ?_|refine z_O (by omega) ?_|refine z_P ?_|refine z_Q ?_|refine z_R ?_|refine z_S ?_|refine z_T ?_|refine z_U (by decide) ?_|refine z_V (by decide) ?_)
    have hdr : Below w4.heap.size w4 w4.drew := (Below.refl _ _).drew
    have q0 : ∀ w', Below w4.heap.size w4 w' → w'.cell? ⟨g', 0, none⟩ = some (.map (some b')) := fun w' hb => (hP4.blk.below' hb).cell 0
    refine draw (Below w4.heap.size w4) hdr ?_
    (repeat with_reducible first | refine yfd p0 (by decide) ?_| refine yl1 oneMp q0 ?_|refine z_W ?_|refine z_a ?_|refine z_b ?_|refine z_c ?_|refine z_d ?_|refine z_e ?_|refine z_f ?_|refine z_g ?_|refine z_h ?_|refine z_i ?_|refine z_j ?_|refine z_k ?_|refine z_l ?_|refine z_X (by omega) ?_|refine z_Y (by omega) ?_|refine z_Z (by omega) ?_|refine z_a1 (by omega) ?_|refine z_b1 (by omega) ?_|refine z_c1 (by omega) ?_|refine z_d1 (by omega) ?_|refine z_e1 (by omega) ?_|refine z_f1 (by omega) ?_|refine z_g1 (by omega) ?_|refine z_h1 (by omega) ?_|refine z_i1 (by omega) ?_|refine z_j1 (by omega) ?_|refine z_k1 (by omega) ?_|refine z_l1 ?_|refine z_m1 ?_|refine z_n1 ?_|refine z_o1 ?_|refine z_p1 ?_|refine z_q1 ?_|refine z_r1 ?_|refine z_s1 ?_|refine z_t1 ?_|refine z_u1 ?_|refine z_v1 (by omega) (by decide) ?_|refine z_w1 (by omega) (by decide) ?_|refine z_x1 (by omega) ?_|refine z_y1 (by omega) ?_|refine z_z1 (by omega) ?_|refine z_A1 ?_|refine z_B1 ?_|refine z_C1 ?_|refine z_D1 ?_|refine z_E1 ?_|refine z_F1 (by decide) ?_|refine z_G1 (by decide) ?_)
    refine act ?_
    have hb4d := below_then hb4 hdr
    refine (Clone45 v' rec w4.drew (keeps_Vals _ _ _ _ hb4d hVS) (by show rec.length ≤ 100000; have : rec.length ≤ 1000 := hrl; omega)).mono ?_
    intro vc w5 hv5
    have hb45 := below_then hdr hv5.bel
    have hb5 := below_then hb4 hb45
    refine ⟨_, hb45, fun _ h => h, ?_⟩
    have hP5 : PlAt hu' (col d w4.heap.size 999) w5 g' b' vX' M' [] := (hP4.re (col_lt _ _ _)).below hb45
    have hs3 := hb3.size
    have hs4 := hT4.size
    refine T.mup undMp und9 hP5.map (by have : k.length ≤ 16 := hkl; omega) (by rw [List.length_map]; simp only [maxLen]; omega) ?_
    intro w6 hm6 hT6
    obtain ⟨hP6, _⟩ := hP5.putM ((hv5.old hdr).vs (vals_ok hVS) d 999) hm6 hT6
    have hidx : T.idxK k M' = none := by
      cases hx : T.idxK k M' with
      | none => rfl
      | some p =>
        exfalso
        have hg : T.getK k M' = some p.2 := by rw [T.getK_idx, hx]; rfl
        exact hkdn (by rw [← hkeys]; exact List.mem_map.2 ⟨_, getT_mem hg, rfl⟩)
    rw [T.setK_none _ _ _ hidx] at hP6
    have hrl3 := hit.ltr
    refine hJ _ _ hlt ⟨_, dn ++ [k], _, _, rfl, (hit4.below hb45).turns hT6 (fun e => ?_) (fun e => hgb.2.2 e.symm), hdn', hmem', ?_, ?_, fun j hj => ?_, ?_, hP6, hb5.trans (hT6.below hb5.size fun j hj e => ?_)⟩
    · have := h.map.lt
      omega
    · rw [List.map_append, hkeys]; rfl
    · rw [List.map_append, hM', List.filterMap_append]
      congr 1
      simp only [List.filterMap_cons, List.filterMap_nil, entC, hrec, Option.bind_some]
      rfl
    · rw [col_lt _ _ _ j (by omega)]
      exact hd0 j hj
    · rw [col_lt _ _ _ _ (by omega)]
      exact hdr0
    · omega
theorem SameIndexes29 (v v' : Value) (L L' : List Xm) (w : World) (hv : IxAt w v L) (hv' : IxAt w v' L') (he : L.map xmP = L'.map xmP) :
    CallP Tryz.prog 29 #[v, v'] (fun r w' => r = .bool true ∧ Below w.heap.size w w') w := by
  have hlen : L.length = L'.length := by
    have := congrArg List.length he
    rwa [List.length_map, List.length_map] at this
  obtain ⟨A, c, rfl, hc, hcm⟩ := hv.row.slice
  obtain ⟨A', c', rfl, _⟩ := hv'.row.slice
  simp only [maxLen] at hcm
  refine ⟨S29.calls _ _ _ _ ?_⟩
  unfold S29
  refine ln undSt ?_
  refine ln undSt ?_
  (repeat with_reducible first|refine z_a ?_|refine z_b ?_|refine z_c ?_|refine z_d ?_|refine z_e ?_|refine z_f ?_|refine z_g ?_|refine z_h ?_|refine z_i ?_|refine z_j ?_|refine z_k ?_|refine z_l ?_|refine z_m (by omega) ?_|refine z_n (by omega) ?_|refine z_o (by omega) ?_|refine z_p (by omega) ?_|refine z_q (by omega) ?_|refine z_r (by omega) ?_|refine z_s (by omega) ?_|refine z_t (by omega) ?_|refine z_u (by omega) ?_|refine z_v (by omega) ?_|refine z_w (by omega) ?_|refine z_x (by omega) ?_|refine z_y (by omega) ?_|refine z_z (by omega) ?_|refine z_A ?_|refine z_B ?_|refine z_C ?_|refine z_D ?_|refine z_E ?_|refine z_F ?_|refine z_G ?_|refine z_H ?_|refine z_I ?_|refine z_J ?_|refine z_K (by omega) (by decide) ?_|refine z_L (by omega) (by decide) ?_|refine z_M (by omega) ?_|refine z_N (by omega) ?_|refine z_O (by omega) ?_|refine z_P ?_|refine z_Q ?_|refine z_R ?_|refine z_S ?_|refine z_T ?_|refine z_U (by decide) ?_|refine z_V (by decide) ?_)
  refine LoopP.inv1 (fun iv w' => ∃ k : Nat, k ≤ L.length ∧ iv = .int .i64 k ∧ Below w.heap.size w w') (fun iv _ => L.length - (intOf iv).toNat) ⟨0, by omega, rfl, Below.refl _ _⟩ ?_
  rintro _ w1 ⟨k, hk, rfl, hb1⟩ J hJ
  dsimp only [List.headD_cons, List.tail_cons]
  refine ln undSt ?_
  refine bi_lss_c (fun h => ?_) (fun h => ?_)
  rotate_left
  · (repeat with_reducible first|refine z_a ?_|refine z_b ?_|refine z_c ?_|refine z_d ?_|refine z_e ?_|refine z_f ?_|refine z_g ?_|refine z_h ?_|refine z_i ?_|refine z_j ?_|refine z_k ?_|refine z_l ?_|refine z_m (by omega) ?_|refine z_n (by omega) ?_|refine z_o (by omega) ?_|refine z_p (by omega) ?_|refine z_q (by omega) ?_|refine z_r (by omega) ?_|refine z_s (by omega) ?_|refine z_t (by omega) ?_|refine z_u (by omega) ?_|refine z_v (by omega) ?_|refine z_w (by omega) ?_|refine z_x (by omega) ?_|refine z_y (by omega) ?_|refine z_z (by omega) ?_|refine z_A ?_|refine z_B ?_|refine z_C ?_|refine z_D ?_|refine z_E ?_|refine z_F ?_|refine z_G ?_|refine z_H ?_|refine z_I ?_|refine z_J ?_|refine z_K (by omega) (by decide) ?_|refine z_L (by omega) (by decide) ?_|refine z_M (by omega) ?_|refine z_N (by omega) ?_|refine z_O (by omega) ?_|refine z_P ?_|refine z_Q ?_|refine z_R ?_|refine z_S ?_|refine z_T ?_|refine z_U (by decide) ?_|refine z_V (by decide) ?_)
    exact ⟨by first | rfl | trivial, hb1⟩
  have hk' : k < L.length := by omega
  have hkn : k < L'.length := by omega
  have ee : (L[k].id, L[k].fs) = (L'[k].id, L'[k].fs) := by
    have : (L.map xmP)[k]? = (L'.map xmP)[k]? := by rw [he]
    rw [List.getElem?_map, List.getElem?_map, List.getElem?_eq_getElem hk', List.getElem?_eq_getElem hkn] at this
    exact Option.some.inj this
  have ei : L[k].id = L'[k].id := (congrArg Prod.fst ee :)
  have ef : L[k].fs = L'[k].fs := (congrArg Prod.snd ee :)
  have hdr : Below w1.heap.size w1 w1.drew := (Below.refl _ _).drew
  have h1 := hv.below hb1
  have h2 := hv'.below hb1
  obtain ⟨g1, c1, he1, hc1⟩ := rowAt xmF_len h1.row k hk' (by decide)
  cases he1
  obtain ⟨g2, c2, he2, hc2⟩ := rowAt xmF_len h2.row k hkn (by decide)
  cases he2
  have a0 := keepR hc1 0 _ rfl
  have a1 := keepR hc1 1 _ rfl
  have b0 := keepR hc2 0 _ rfl
  have b1 := keepR hc2 1 _ rfl
  have m1 := h1.ms _ (List.getElem_mem hk')
  have m2 := h2.ms _ (List.getElem_mem hkn)
  obtain ⟨F1, e1, hf1, hl1, hl1m⟩ := m1.slice
  obtain ⟨F2, e2, hf2, _⟩ := m2.slice
  have l1 : (iV L[k].fs).length = L[k].fs.length := List.length_map _
  have l2 : (iV L'[k].fs).length = L'[k].fs.length := List.length_map _
  rw [l1] at hf1 hl1
  rw [l2, ← ef] at hf2
  rw [hf1] at a1
  rw [hf2] at b1
  rw [← ei] at b0
  rw [hf1] at m1
  rw [hf2, ← ef] at m2
  (repeat with_reducible first|refine z_a ?_|refine z_b ?_|refine z_c ?_|refine z_d ?_|refine z_e ?_|refine z_f ?_|refine z_g ?_|refine z_h ?_|refine z_i ?_|refine z_j ?_|refine z_k ?_|refine z_l ?_|refine z_m (by omega) ?_|refine z_n (by omega) ?_|refine z_o (by omega) ?_|refine z_p (by omega) ?_|refine z_q (by omega) ?_|refine z_r (by omega) ?_|refine z_s (by omega) ?_|refine z_t (by omega) ?_|refine z_u (by omega) ?_|refine z_v (by omega) ?_|refine z_w (by omega) ?_|refine z_x (by omega) ?_|refine z_y (by omega) ?_|refine z_z (by omega) ?_|refine z_A ?_|refine z_B ?_|refine z_C ?_|refine z_D ?_|refine z_E ?_|refine z_F ?_|refine z_G ?_|refine z_H ?_|refine z_I ?_|refine z_J ?_|refine z_K (by omega) (by decide) ?_|refine z_L (by omega) (by decide) ?_|refine z_M (by omega) ?_|refine z_N (by omega) ?_|refine z_O (by omega) ?_|refine z_P ?_|refine z_Q ?_|refine z_R ?_|refine z_S ?_|refine z_T ?_|refine z_U (by decide) ?_|refine z_V (by decide) ?_)
  refine draw (Below w1.heap.size w1) hdr ?_
  refine yixG undSt szIx k hk' ?_
  (repeat with_reducible first | refine yfdG x0 (by decide) ?_| refine yl1 one3 a0 ?_|refine z_W ?_|refine z_a ?_|refine z_b ?_|refine z_c ?_|refine z_d ?_|refine z_e ?_|refine z_f ?_|refine z_g ?_|refine z_h ?_|refine z_i ?_|refine z_j ?_|refine z_k ?_|refine z_l ?_|refine z_X (by omega) ?_|refine z_Y (by omega) ?_|refine z_Z (by omega) ?_|refine z_a1 (by omega) ?_|refine z_b1 (by omega) ?_|refine z_c1 (by omega) ?_|refine z_d1 (by omega) ?_|refine z_e1 (by omega) ?_|refine z_f1 (by omega) ?_|refine z_g1 (by omega) ?_|refine z_h1 (by omega) ?_|refine z_i1 (by omega) ?_|refine z_j1 (by omega) ?_|refine z_k1 (by omega) ?_|refine z_l1 ?_|refine z_m1 ?_|refine z_n1 ?_|refine z_o1 ?_|refine z_p1 ?_|refine z_q1 ?_|refine z_r1 ?_|refine z_s1 ?_|refine z_t1 ?_|refine z_u1 ?_|refine z_v1 (by omega) (by decide) ?_|refine z_w1 (by omega) (by decide) ?_|refine z_x1 (by omega) ?_|refine z_y1 (by omega) ?_|refine z_z1 (by omega) ?_|refine z_A1 ?_|refine z_B1 ?_|refine z_C1 ?_|refine z_D1 ?_|refine z_E1 ?_|refine z_F1 (by decide) ?_|refine z_G1 (by decide) ?_)
  refine yixG undSt szIx k hkn ?_
  (repeat with_reducible first | refine yfdG x0 (by decide) ?_| refine yl1 one3 b0 ?_|refine z_W ?_|refine z_a ?_|refine z_b ?_|refine z_c ?_|refine z_d ?_|refine z_e ?_|refine z_f ?_|refine z_g ?_|refine z_h ?_|refine z_i ?_|refine z_j ?_|refine z_k ?_|refine z_l ?_|refine z_X (by omega) ?_|refine z_Y (by omega) ?_|refine z_Z (by omega) ?_|refine z_a1 (by omega) ?_|refine z_b1 (by omega) ?_|refine z_c1 (by omega) ?_|refine z_d1 (by omega) ?_|refine z_e1 (by omega) ?_|refine z_f1 (by omega) ?_|refine z_g1 (by omega) ?_|refine z_h1 (by omega) ?_|refine z_i1 (by omega) ?_|refine z_j1 (by omega) ?_|refine z_k1 (by omega) ?_|refine z_l1 ?_|refine z_m1 ?_|refine z_n1 ?_|refine z_o1 ?_|refine z_p1 ?_|refine z_q1 ?_|refine z_r1 ?_|refine z_s1 ?_|refine z_t1 ?_|refine z_u1 ?_|refine z_v1 (by omega) (by decide) ?_|refine z_w1 (by omega) (by decide) ?_|refine z_x1 (by omega) ?_|refine z_y1 (by omega) ?_|refine z_z1 (by omega) ?_|refine z_A1 ?_|refine z_B1 ?_|refine z_C1 ?_|refine z_D1 ?_|refine z_E1 ?_|refine z_F1 (by decide) ?_|refine z_G1 (by decide) ?_)
  refine yixG undSt szIx k hk' ?_
  (repeat with_reducible first | refine yfdG x1 (by decide) ?_| refine yl1 oneIs a1 ?_| refine yln undIs ?_|refine z_W ?_|refine z_a ?_|refine z_b ?_|refine z_c ?_|refine z_d ?_|refine z_e ?_|refine z_f ?_|refine z_g ?_|refine z_h ?_|refine z_i ?_|refine z_j ?_|refine z_k ?_|refine z_l ?_|refine z_X (by omega) ?_|refine z_Y (by omega) ?_|refine z_Z (by omega) ?_|refine z_a1 (by omega) ?_|refine z_b1 (by omega) ?_|refine z_c1 (by omega) ?_|refine z_d1 (by omega) ?_|refine z_e1 (by omega) ?_|refine z_f1 (by omega) ?_|refine z_g1 (by omega) ?_|refine z_h1 (by omega) ?_|refine z_i1 (by omega) ?_|refine z_j1 (by omega) ?_|refine z_k1 (by omega) ?_|refine z_l1 ?_|refine z_m1 ?_|refine z_n1 ?_|refine z_o1 ?_|refine z_p1 ?_|refine z_q1 ?_|refine z_r1 ?_|refine z_s1 ?_|refine z_t1 ?_|refine z_u1 ?_|refine z_v1 (by omega) (by decide) ?_|refine z_w1 (by omega) (by decide) ?_|refine z_x1 (by omega) ?_|refine z_y1 (by omega) ?_|refine z_z1 (by omega) ?_|refine z_A1 ?_|refine z_B1 ?_|refine z_C1 ?_|refine z_D1 ?_|refine z_E1 ?_|refine z_F1 (by decide) ?_|refine z_G1 (by decide) ?_)
  refine yixG undSt szIx k hkn ?_
  (repeat with_reducible first | refine yfdG x1 (by decide) ?_| refine yl1 oneIs b1 ?_| refine yln undIs ?_|refine z_W ?_|refine z_a ?_|refine z_b ?_|refine z_c ?_|refine z_d ?_|refine z_e ?_|refine z_f ?_|refine z_g ?_|refine z_h ?_|refine z_i ?_|refine z_j ?_|refine z_k ?_|refine z_l ?_|refine z_X (by omega) ?_|refine z_Y (by omega) ?_|refine z_Z (by omega) ?_|refine z_a1 (by omega) ?_|refine z_b1 (by omega) ?_|refine z_c1 (by omega) ?_|refine z_d1 (by omega) ?_|refine z_e1 (by omega) ?_|refine z_f1 (by omega) ?_|refine z_g1 (by omega) ?_|refine z_h1 (by omega) ?_|refine z_i1 (by omega) ?_|refine z_j1 (by omega) ?_|refine z_k1 (by omega) ?_|refine z_l1 ?_|refine z_m1 ?_|refine z_n1 ?_|refine z_o1 ?_|refine z_p1 ?_|refine z_q1 ?_|refine z_r1 ?_|refine z_s1 ?_|refine z_t1 ?_|refine z_u1 ?_|refine z_v1 (by omega) (by decide) ?_|refine z_w1 (by omega) (by decide) ?_|refine z_x1 (by omega) ?_|refine z_y1 (by omega) ?_|refine z_z1 (by omega) ?_|refine z_A1 ?_|refine z_B1 ?_|refine z_C1 ?_|refine z_D1 ?_|refine z_E1 ?_|refine z_F1 (by decide) ?_|refine z_G1 (by decide) ?_)
  have hb01 := below_then hb1 hdr
  refine LoopP.inv1 (fun jv w' => ∃ j : Nat, j ≤ L[k].fs.length ∧ jv = .int .i64 j ∧ Below w1.heap.size w1 w') (fun jv _ => L[k].fs.length - (intOf jv).toNat) ⟨0, by omega, rfl, hdr⟩ ?_
  rintro _ w2 ⟨j, hj, rfl, hb2⟩ J2 hJ2
  dsimp only [List.headD_cons, List.tail_cons]
  refine ixG undSt szIx k hk' ?_
  (repeat with_reducible first | refine fdG x1 (by decide) ?_| refine ld oneIs (a1 _ hb2) ?_|refine z_a ?_|refine z_b ?_|refine z_c ?_|refine z_d ?_|refine z_e ?_|refine z_f ?_|refine z_g ?_|refine z_h ?_|refine z_i ?_|refine z_j ?_|refine z_k ?_|refine z_l ?_|refine z_m (by omega) ?_|refine z_n (by omega) ?_|refine z_o (by omega) ?_|refine z_p (by omega) ?_|refine z_q (by omega) ?_|refine z_r (by omega) ?_|refine z_s (by omega) ?_|refine z_t (by omega) ?_|refine z_u (by omega) ?_|refine z_v (by omega) ?_|refine z_w (by omega) ?_|refine z_x (by omega) ?_|refine z_y (by omega) ?_|refine z_z (by omega) ?_|refine z_A ?_|refine z_B ?_|refine z_C ?_|refine z_D ?_|refine z_E ?_|refine z_F ?_|refine z_G ?_|refine z_H ?_|refine z_I ?_|refine z_J ?_|refine z_K (by omega) (by decide) ?_|refine z_L (by omega) (by decide) ?_|refine z_M (by omega) ?_|refine z_N (by omega) ?_|refine z_O (by omega) ?_|refine z_P ?_|refine z_Q ?_|refine z_R ?_|refine z_S ?_|refine z_T ?_|refine z_U (by decide) ?_|refine z_V (by decide) ?_)
  refine ln undIs ?_
  refine bi_lss_c (fun h3 => ?_) (fun h3 => ?_)
  · have hj' : j < L[k].fs.length := by omega
    obtain ⟨p, rfl, hp⟩ := Rd.atI (m1.below hb2) j hj'
    obtain ⟨q, rfl, hq⟩ := Rd.atI (m2.below hb2) j hj'
    have hdr2 : Below w2.heap.size w2 w2.drew := (Below.refl _ _).drew
    have hb22 := below_then hb2 hdr2
    have a1' : ∀ w', Below w2.heap.size w2 w' → _ := fun w' hb => a1 w' (below_then hb2 hb)
    have b1' : ∀ w', Below w2.heap.size w2 w' → _ := fun w' hb => b1 w' (below_then hb2 hb)
    (repeat with_reducible first|refine z_a ?_|refine z_b ?_|refine z_c ?_|refine z_d ?_|refine z_e ?_|refine z_f ?_|refine z_g ?_|refine z_h ?_|refine z_i ?_|refine z_j ?_|refine z_k ?_|refine z_l ?_|refine z_m (by omega) ?_|refine z_n (by omega) ?_|refine z_o (by omega) ?_|refine z_p (by omega) ?_|refine z_q (by omega) ?_|refine z_r (by omega) ?_|refine z_s (by omega) ?_|refine z_t (by omega) ?_|refine z_u (by omega) ?_|refine z_v (by omega) ?_|refine z_w (by omega) ?_|refine z_x (by omega) ?_|refine z_y (by omega) ?_|refine z_z (by omega) ?_|refine z_A ?_|refine z_B ?_|refine z_C ?_|refine z_D ?_|refine z_E ?_|refine z_F ?_|refine z_G ?_|refine z_H ?_|refine z_I ?_|refine z_J ?_|refine z_K (by omega) (by decide) ?_|refine z_L (by omega) (by decide) ?_|refine z_M (by omega) ?_|refine z_N (by omega) ?_|refine z_O (by omega) ?_|refine z_P ?_|refine z_Q ?_|refine z_R ?_|refine z_S ?_|refine z_T ?_|refine z_U (by decide) ?_|refine z_V (by decide) ?_)
    refine draw (Below w2.heap.size w2) hdr2 ?_
    refine yixG undSt szIx k hk' ?_
    (repeat with_reducible first | refine yfdG x1 (by decide) ?_| refine yl1 oneIs a1' ?_|refine z_W ?_|refine z_a ?_|refine z_b ?_|refine z_c ?_|refine z_d ?_|refine z_e ?_|refine z_f ?_|refine z_g ?_|refine z_h ?_|refine z_i ?_|refine z_j ?_|refine z_k ?_|refine z_l ?_|refine z_X (by omega) ?_|refine z_Y (by omega) ?_|refine z_Z (by omega) ?_|refine z_a1 (by omega) ?_|refine z_b1 (by omega) ?_|refine z_c1 (by omega) ?_|refine z_d1 (by omega) ?_|refine z_e1 (by omega) ?_|refine z_f1 (by omega) ?_|refine z_g1 (by omega) ?_|refine z_h1 (by omega) ?_|refine z_i1 (by omega) ?_|refine z_j1 (by omega) ?_|refine z_k1 (by omega) ?_|refine z_l1 ?_|refine z_m1 ?_|refine z_n1 ?_|refine z_o1 ?_|refine z_p1 ?_|refine z_q1 ?_|refine z_r1 ?_|refine z_s1 ?_|refine z_t1 ?_|refine z_u1 ?_|refine z_v1 (by omega) (by decide) ?_|refine z_w1 (by omega) (by decide) ?_|refine z_x1 (by omega) ?_|refine z_y1 (by omega) ?_|refine z_z1 (by omega) ?_|refine z_A1 ?_|refine z_B1 ?_|refine z_C1 ?_|refine z_D1 ?_|refine z_E1 ?_|refine z_F1 (by decide) ?_|refine z_G1 (by decide) ?_)
    refine yix1 undIs szI j hj' ?_
    (repeat with_reducible first | refine yl1 oneI (RdKeep hp) ?_|refine z_W ?_|refine z_a ?_|refine z_b ?_|refine z_c ?_|refine z_d ?_|refine z_e ?_|refine z_f ?_|refine z_g ?_|refine z_h ?_|refine z_i ?_|refine z_j ?_|refine z_k ?_|refine z_l ?_|refine z_X (by omega) ?_|refine z_Y (by omega) ?_|refine z_Z (by omega) ?_|refine z_a1 (by omega) ?_|refine z_b1 (by omega) ?_|refine z_c1 (by omega) ?_|refine z_d1 (by omega) ?_|refine z_e1 (by omega) ?_|refine z_f1 (by omega) ?_|refine z_g1 (by omega) ?_|refine z_h1 (by omega) ?_|refine z_i1 (by omega) ?_|refine z_j1 (by omega) ?_|refine z_k1 (by omega) ?_|refine z_l1 ?_|refine z_m1 ?_|refine z_n1 ?_|refine z_o1 ?_|refine z_p1 ?_|refine z_q1 ?_|refine z_r1 ?_|refine z_s1 ?_|refine z_t1 ?_|refine z_u1 ?_|refine z_v1 (by omega) (by decide) ?_|refine z_w1 (by omega) (by decide) ?_|refine z_x1 (by omega) ?_|refine z_y1 (by omega) ?_|refine z_z1 (by omega) ?_|refine z_A1 ?_|refine z_B1 ?_|refine z_C1 ?_|refine z_D1 ?_|refine z_E1 ?_|refine z_F1 (by decide) ?_|refine z_G1 (by decide) ?_)
    refine yixG undSt szIx k hkn ?_
    (repeat with_reducible first | refine yfdG x1 (by decide) ?_| refine yl1 oneIs b1' ?_|refine z_W ?_|refine z_a ?_|refine z_b ?_|refine z_c ?_|refine z_d ?_|refine z_e ?_|refine z_f ?_|refine z_g ?_|refine z_h ?_|refine z_i ?_|refine z_j ?_|refine z_k ?_|refine z_l ?_|refine z_X (by omega) ?_|refine z_Y (by omega) ?_|refine z_Z (by omega) ?_|refine z_a1 (by omega) ?_|refine z_b1 (by omega) ?_|refine z_c1 (by omega) ?_|refine z_d1 (by omega) ?_|refine z_e1 (by omega) ?_|refine z_f1 (by omega) ?_|refine z_g1 (by omega) ?_|refine z_h1 (by omega) ?_|refine z_i1 (by omega) ?_|refine z_j1 (by omega) ?_|refine z_k1 (by omega) ?_|refine z_l1 ?_|refine z_m1 ?_|refine z_n1 ?_|refine z_o1 ?_|refine z_p1 ?_|refine z_q1 ?_|refine z_r1 ?_|refine z_s1 ?_|refine z_t1 ?_|refine z_u1 ?_|refine z_v1 (by omega) (by decide) ?_|refine z_w1 (by omega) (by decide) ?_|refine z_x1 (by omega) ?_|refine z_y1 (by omega) ?_|refine z_z1 (by omega) ?_|refine z_A1 ?_|refine z_B1 ?_|refine z_C1 ?_|refine z_D1 ?_|refine z_E1 ?_|refine z_F1 (by decide) ?_|refine z_G1 (by decide) ?_)
    refine yix1 undIs szI j hj' ?_
    (repeat with_reducible first | refine yl1 oneI (RdKeep hq) ?_|refine z_W ?_|refine z_a ?_|refine z_b ?_|refine z_c ?_|refine z_d ?_|refine z_e ?_|refine z_f ?_|refine z_g ?_|refine z_h ?_|refine z_i ?_|refine z_j ?_|refine z_k ?_|refine z_l ?_|refine z_X (by omega) ?_|refine z_Y (by omega) ?_|refine z_Z (by omega) ?_|refine z_a1 (by omega) ?_|refine z_b1 (by omega) ?_|refine z_c1 (by omega) ?_|refine z_d1 (by omega) ?_|refine z_e1 (by omega) ?_|refine z_f1 (by omega) ?_|refine z_g1 (by omega) ?_|refine z_h1 (by omega) ?_|refine z_i1 (by omega) ?_|refine z_j1 (by omega) ?_|refine z_k1 (by omega) ?_|refine z_l1 ?_|refine z_m1 ?_|refine z_n1 ?_|refine z_o1 ?_|refine z_p1 ?_|refine z_q1 ?_|refine z_r1 ?_|refine z_s1 ?_|refine z_t1 ?_|refine z_u1 ?_|refine z_v1 (by omega) (by decide) ?_|refine z_w1 (by omega) (by decide) ?_|refine z_x1 (by omega) ?_|refine z_y1 (by omega) ?_|refine z_z1 (by omega) ?_|refine z_A1 ?_|refine z_B1 ?_|refine z_C1 ?_|refine z_D1 ?_|refine z_E1 ?_|refine z_F1 (by decide) ?_|refine z_G1 (by decide) ?_)
    (repeat with_reducible first|refine z_a ?_|refine z_b ?_|refine z_c ?_|refine z_d ?_|refine z_e ?_|refine z_f ?_|refine z_g ?_|refine z_h ?_|refine z_i ?_|refine z_j ?_|refine z_k ?_|refine z_l ?_|refine z_m (by omega) ?_|refine z_n (by omega) ?_|refine z_o (by omega) ?_|refine z_p (by omega) ?_|refine z_q (by omega) ?_|refine z_r (by omega) ?_|refine z_s (by omega) ?_|refine z_t (by omega) ?_|refine z_u (by omega) ?_|refine z_v (by omega) ?_|refine z_w (by omega) ?_|refine z_x (by omega) ?_|refine z_y (by omega) ?_|refine z_z (by omega) ?_|refine z_A ?_|refine z_B ?_|refine z_C ?_|refine z_D ?_|refine z_E ?_|refine z_F ?_|refine z_G ?_|refine z_H ?_|refine z_I ?_|refine z_J ?_|refine z_K (by omega) (by decide) ?_|refine z_L (by omega) (by decide) ?_|refine z_M (by omega) ?_|refine z_N (by omega) ?_|refine z_O (by omega) ?_|refine z_P ?_|refine z_Q ?_|refine z_R ?_|refine z_S ?_|refine z_T ?_|refine z_U (by decide) ?_|refine z_V (by decide) ?_)
    exact hJ2 _ _ ⟨j + 1, by omega, by simp, hb22⟩ (by simp [intOf]; omega)
  · (repeat with_reducible first|refine z_a ?_|refine z_b ?_|refine z_c ?_|refine z_d ?_|refine z_e ?_|refine z_f ?_|refine z_g ?_|refine z_h ?_|refine z_i ?_|refine z_j ?_|refine z_k ?_|refine z_l ?_|refine z_m (by omega) ?_|refine z_n (by omega) ?_|refine z_o (by omega) ?_|refine z_p (by omega) ?_|refine z_q (by omega) ?_|refine z_r (by omega) ?_|refine z_s (by omega) ?_|refine z_t (by omega) ?_|refine z_u (by omega) ?_|refine z_v (by omega) ?_|refine z_w (by omega) ?_|refine z_x (by omega) ?_|refine z_y (by omega) ?_|refine z_z (by omega) ?_|refine z_A ?_|refine z_B ?_|refine z_C ?_|refine z_D ?_|refine z_E ?_|refine z_F ?_|refine z_G ?_|refine z_H ?_|refine z_I ?_|refine z_J ?_|refine z_K (by omega) (by decide) ?_|refine z_L (by omega) (by decide) ?_|refine z_M (by omega) ?_|refine z_N (by omega) ?_|refine z_O (by omega) ?_|refine z_P ?_|refine z_Q ?_|refine z_R ?_|refine z_S ?_|refine z_T ?_|refine z_U (by decide) ?_|refine z_V (by decide) ?_)
    exact hJ _ _ ⟨k + 1, by omega, by simp, below_then hb1 hb2⟩ (by simp [intOf]; omega)
end Go.Proofs.YtonblppkidpmlaaGreatDoor.E
namespace Go.Proofs.YtonblppkidpmlaaGreatDoor.E
open Go Go.RowKit
set_option linter.unusedSimpArgs false
set_option linter.unusedVariables false

/-- A record of n values that may be written. -/
def Wr (w : World) (v : Value) (n : Nat) : Prop := (v = .slice none 0 0 ∧ n = 0) ∨ ∃ g c cur, v = .slice (some ⟨g, 0, none⟩) n c ∧ Blk w g 67 cur ∧ n * 3 ≤ cur.size ∧ n ≤ maxLen
theorem Wr.slice {w : World} {v : Value} {n : Nat} (h : Wr w v n) : ∃ A c, v = .slice A n c ∧ n ≤ maxLen := by
  rcases h with ⟨rfl, rfl⟩ | ⟨g, c, cur, rfl, _, _, h⟩
  · exact ⟨none, 0, rfl, Nat.zero_le _⟩
  · exact ⟨_, c, rfl, h⟩
theorem Wr.turns {F : Nat → Prop} {w w' : World} {v : Value} {n : Nat} (h : Wr w v n) (hT : Turns F w w') (hF : ∀ k, v.ownBlock = some k → ¬ F k) : Wr w' v n := by
  rcases h with h | ⟨g, c, cur, rfl, hB, h⟩
  · exact .inl h
  · exact .inr ⟨g, c, cur, rfl, hB.turns hT (hF g rfl), h⟩
theorem Wr.lt {w : World} {v : Value} {n : Nat} (h : Wr w v n) {k : Nat} (hk : v.ownBlock = some k) : k < w.heap.size := by
  rcases h with ⟨rfl, _⟩ | ⟨g, c, cur, rfl, hB, _⟩
  · cases hk
  · have : g = k := by simpa [Value.ownBlock] using hk
    rw [← this]; exact hB.lt
theorem OwnL.wr {w0 w : World} {v : Value} {l : List ValT} (h : OwnV w0 w v l) : Wr w v l.length := by
  have h1 := (OwnR.of_own h.own).2
  rcases h1 with ⟨e, h0⟩ | ⟨g, c, cur, e, hB, h2, h3, h4, _⟩
  · exact .inl ⟨e, h0⟩
  · exact .inr ⟨g, c, cur, e, hB, h4, Nat.le_trans h2 h3⟩
/-- One value of it is written: all that may be written may be so still. -/
theorem wrS {K : Value → World → Prop} {w : World} {g n c i : Nat} {cells : Array Value} (h : Wr w (.slice (some ⟨g, 0, none⟩) n c) n) (hi : i < n) (hs : cells.size = 3) (h1 : cells.all (·.oneCell') = true)
    (k : ∀ w', (∀ v m, Wr w v m → Wr w' v m) → Turns (fun j => j = g) w w' → K undef w') : LiftU Tryz.prog (Instr.storeAt 67 (.pointer (some ⟨g, i * 3, none⟩)) (.agg cells)) K w := by
  rcases h with ⟨h, _⟩ | ⟨g', c', cur, he, hB, hn, _⟩
  · cases h
  cases he
  have hle : i * 3 + 3 ≤ n * 3 := by omega
  refine stM hB (by rw [szVal, hs]) (by omega) h1 (k _ (fun v m hw => ?_) (Turns.setRow (F := fun j => j = g) (Turns.refl _ w) (.inl rfl) _))
  rcases hw with hw | ⟨g2, c2, cur2, rfl, hB2, hm, hmx⟩
  · exact .inl hw
  · by_cases e : g2 = g
    · subst e
      have hc : cur2 = cur := by
        unfold Blk at hB hB2
        rw [hB] at hB2
        simp only [Option.some.injEq, Obj.cells.injEq] at hB2
        exact hB2.1.symm
      subst hc
      refine .inr ⟨g2, c2, _, rfl, hB2.row _, ?_, hmx⟩
      simp only [List.size_toArray, List.length_append, List.length_take, List.length_drop, Array.length_toList, hs]
      omega
    · exact .inr ⟨g2, c2, cur2, rfl, hB2.farRow e _, hm, hmx⟩
def vN : ValT := (9, 0, ⟨#[]⟩, ())
theorem bN {K : Value → World → Prop} {w : World} (k : K (.agg (valF vN).toArray) w) : LiftP Tryz.prog (Instr.build 67 #[(0, .int .i64 9)]) K w := bd (cells := (valF vN).toArray) (by kernel_rfl) k
/-- A record that may be written. -/
def wrO (v : Value) (n : Nat) : Ob9 where
  hu := 6
  ok := fun c w => InC c 6 v ∧ Wr w v n
  pos := by omega
  turns := fun h hT hG => ⟨h.1, h.2.turns hT fun k hk e => (hG k e).1 (h.1 k hk)⟩
  re := fun h hc => ⟨h.1.re (fun b hb => h.2.lt hb) hc, h.2⟩
/-- Rows whose records may be written. -/
def spO (v : Value) (M : List Mm) : Ob9 where
  hu := 7
  ok := fun c w => OwnR 2 40 w v M.length (M.flatMap mmF) ∧ InC c 7 v ∧ ∀ m ∈ M, InC c 7 m.2.1 ∧ Wr w m.2.1 m.2.2.length
  pos := by omega
  turns := fun h hT hG => ⟨h.1.turns' hT fun k hk e => (hG k e).1 (h.2.1 k hk), h.2.1, fun m hm => ⟨(h.2.2 m hm).1, (h.2.2 m hm).2.turns hT fun k hk e => (hG k e).1 ((h.2.2 m hm).1 k hk)⟩⟩
  re := fun h hc => ⟨h.1, h.2.1.re (fun b hb => h.1.lt' hb) hc, fun m hm => ⟨(h.2.2 m hm).1.re (fun b hb => (h.2.2 m hm).2.lt hb) hc, (h.2.2 m hm).2⟩⟩
abbrev pl2 (g : Nat) (S : StT) : Ob9 := plO 2 g S (by omega)
theorem MemX.wr {w0 w w' : World} {L : List Ob9} {v : Value} {l : List ValT} (h : MemX w0 w L) (hv : OwnV w w' v l) : MemX w0 w' (wrO v l.length :: L) := by
  obtain ⟨c, h1, h2⟩ := h.make
  refine h2 [wrO v l.length] w' ⟨col c w.heap.size 6, col_lt _ _ _, fun x hx => ?_, hv.bel⟩
  simp only [List.mem_cons, List.not_mem_nil, or_false] at hx
  subst hx
  exact ⟨InC.fresh hv.fresh, hv.wr⟩
theorem MemX.sp {w0 w w' : World} {L : List Ob9} {v : Value} {M : List Mm} (h : MemX w0 w L) (hR : OwnRw w w' v M) : MemX w0 w' (spO v M :: L) := by
  obtain ⟨c, h1, h2⟩ := h.make
  refine h2 [spO v M] w' ⟨col c w.heap.size 7, col_lt _ _ _, fun x hx => ?_, hR.row.bel⟩
  simp only [List.mem_cons, List.not_mem_nil, or_false] at hx
  subst hx
  exact ⟨OwnR.of_own hR.row.own, InC.fresh hR.row.fresh, fun m hm => ⟨InC.fresh (hR.ms m hm).1.fresh, (hR.ms m hm).1.wr⟩⟩
/-- A value is written into a record. -/
theorem MemX.write {K : Value → World → Prop} {w0 w : World} {L : List Ob9} {g n c i : Nat} (h : MemX w0 w (wrO (.slice (some ⟨g, 0, none⟩) n c) n :: L)) (hd : ∀ x ∈ L, x.hu ≠ 6) (hi : i < n)
    (k : ∀ w', MemX w0 w' (wrO (.slice (some ⟨g, 0, none⟩) n c) n :: L) → K undef w') : LiftU Tryz.prog (Instr.storeAt 67 (.pointer (some ⟨g, i * 3, none⟩)) (.agg (valF vN).toArray)) K w := by
  obtain ⟨d, ⟨h1, h2⟩, _, h3⟩ := h.call hd
  refine wrS h2 hi rfl (allOne (l := valF vN) rfl) ?_
  intro w' hw hT
  refine k w' (h3 [wrO (.slice (some ⟨g, 0, none⟩) n c) n] w' ⟨d, fun _ _ => rfl, fun x hx => ?_, hT.mono fun j _ e => by rw [e]; exact h1 g rfl⟩)
  simp only [List.mem_cons, List.not_mem_nil, or_false] at hx
  subst hx
  exact ⟨h1, hw _ _ h2⟩
/-- A value is written into a record of rows. -/
theorem MemX.spoil {K : Value → World → Prop} {w0 w : World} {L : List Ob9} {v : Value} {M : List Mm} {g n c i : Nat} {m : Mm} (h : MemX w0 w (spO v M :: L)) (hd : ∀ x ∈ L, x.hu ≠ 7) (hm : m ∈ M) (hv : m.2.1 = .slice (some ⟨g, 0, none⟩) n c) (hn : n = m.2.2.length) (hi : i < n)
    (k : ∀ w', MemX w0 w' (spO v M :: L) → K undef w') : LiftU Tryz.prog (Instr.storeAt 67 (.pointer (some ⟨g, i * 3, none⟩)) (.agg (valF vN).toArray)) K w := by
  obtain ⟨d, ⟨h1, h2, h4⟩, _, h3⟩ := h.call hd
  have hw := (h4 m hm).2
  rw [hv, ← hn] at hw
  refine wrS hw hi rfl (allOne (l := valF vN) rfl) ?_
  intro w' hwr hT
  have hdg : d g = 7 := (h4 m hm).1 g (by rw [hv]; rfl)
  refine k w' (h3 [spO v M] w' ⟨d, fun _ _ => rfl, fun x hx => ?_, hT.mono fun j _ e => by rw [e]; exact hdg⟩)
  simp only [List.mem_cons, List.not_mem_nil, or_false] at hx
  subst hx
  refine ⟨h1.turns' hT fun j hj e => ?_, h2, fun m' hm' => ⟨(h4 m' hm').1, hwr _ _ (h4 m' hm').2⟩⟩
  -- the rows' block is none of values
  subst e
  rcases h1.2 with ⟨rfl, _⟩ | ⟨g9, c9, cur9, rfl, hB9, _⟩
  · cases hj
  · have e9 : g9 = j := by simpa [Value.ownBlock] using hj
    subst e9
    rcases hw with ⟨e, _⟩ | ⟨g8, c8, cur8, e, hB8, _⟩
    · cases e
    · cases e
      unfold Blk at hB9 hB8
      rw [hB9] at hB8
      simp only [Option.some.injEq, Obj.cells.injEq] at hB8
      exact absurd hB8.2.1 (by decide)
/-- An operation on the second store. -/
theorem do_mem2 {w0 w : World} {g n : Nat} {S : StT} {B : List Ob9} {o : OpP} {s : OpS} (h : MemX w0 w (pl2 g S :: B)) (hd : ∀ x ∈ B, x.hu ≠ 2) (hok : StOk n S) (hn : n ≤ 100000) (ho : OpAt w o s) (hm : GMx w) :
    CallP Tryz.prog 15 #[.pointer (some ⟨g, 0, none⟩), .agg (opC o s)] (fun r w' => MemX w0 w' (pl2 g (doS S o).1 :: rpO r (doS S o).2 :: B)) w := by
  obtain ⟨c, h1, h2, h3⟩ := h.call hd
  refine (Do15 (hr := 3) h1 hok hn ⟨by decide, by decide⟩ ho hm).mono ?_
  rintro r w' ⟨c', hc, hS, hR, hT⟩
  refine h3 [pl2 g (doS S o).1, rpO r (doS S o).2] w' ⟨c', hc, fun x hx => ?_, hT⟩
  simp only [List.mem_cons, List.not_mem_nil, or_false] at hx
  rcases hx with rfl | rfl
  · exact hS
  · exact hR
set_option maxHeartbeats 2000000 in
/-- A get. -/
theorem DoGet15 {hu : Nat} {c : Nat → Nat} {w : World} {g n : Nat} {S : StT} {o : OpP} {s : OpS} (hS : PlS hu c w g S) (hok : StOk n S) (ho : OpAt w o s) (hm : GMx w) (hck : chk o = 0) (k3 : o.kind = 3) :
    CallP Tryz.prog 15 #[.pointer (some ⟨g, 0, none⟩), .agg (opC o s)] (fun r w' => ∃ t vr, r = .agg #[.int .i64 0, .bool t, vr, .slice none 0 0, .int .i64 0] ∧ OwnV w w' vr ((T.getK o.key.data.toList S.R).getD [])) w := by
  obtain ⟨b, vX, M, X, h, hp, hX, hids⟩ := hS
  refine ⟨S15.calls _ _ _ _ ?_⟩
  unfold S15
  refine bxB ?_
  intro g1 w1 hg1 hO hb1
  refine alB zRep ?_
  intro g4 w2 hg4 hRep hb2
  have hb12 := below_then hb1 hb2
  refine ldA aggOp (hO.below' hb2) (by exact szOp) ?_
  refine (Check11 o s w2 (ho.below hb12) (hm.below hb12)).mono ?_
  rintro _ w4 ⟨rfl, hb3⟩
  have hb14 := below_then hb2 hb3
  have hb04 := below_then hb1 hb14
  have hO4 := hO.below' hb14
  have hRep4 := hRep.below' hb3
  have h4 := h.below hb04
  have hg4w : w.heap.size ≤ g4 := by rw [hg4]; exact hb1.size
  rw [hck]
  (repeat with_reducible first|refine z_a ?_|refine z_b ?_|refine z_c ?_|refine z_d ?_|refine z_e ?_|refine z_f ?_|refine z_g ?_|refine z_h ?_|refine z_i ?_|refine z_j ?_|refine z_k ?_|refine z_l ?_|refine z_m (by omega) ?_|refine z_n (by omega) ?_|refine z_o (by omega) ?_|refine z_p (by omega) ?_|refine z_q (by omega) ?_|refine z_r (by omega) ?_|refine z_s (by omega) ?_|refine z_t (by omega) ?_|refine z_u (by omega) ?_|refine z_v (by omega) ?_|refine z_w (by omega) ?_|refine z_x (by omega) ?_|refine z_y (by omega) ?_|refine z_z (by omega) ?_|refine z_A ?_|refine z_B ?_|refine z_C ?_|refine z_D ?_|refine z_E ?_|refine z_F ?_|refine z_G ?_|refine z_H ?_|refine z_I ?_|refine z_J ?_|refine z_K (by omega) (by decide) ?_|refine z_L (by omega) (by decide) ?_|refine z_M (by omega) ?_|refine z_N (by omega) ?_|refine z_O (by omega) ?_|refine z_P ?_|refine z_Q ?_|refine z_R ?_|refine z_S ?_|refine z_T ?_|refine z_U (by decide) ?_|refine z_V (by decide) ?_)
  have hdr : Below w4.heap.size w4 w4.drew := (Below.refl _ _).drew
  have yr0 : ∀ w', Below w4.heap.size w4 w' → w'.cell? ⟨g, 0, none⟩ = some (.map (some b)) := fun w' hb => (h4.blk.below' hb).cell 0
  have yr1 : ∀ w', Below w4.heap.size w4 w' → w'.cell? ⟨g1, 1, none⟩ = some (tS o.key.data.toList) := fun w' hb => by rw [← tS_of]; exact opk1 hO4 _ hb
  have hnodM : ((M.map mkr).map (·.1)).Nodup := (hp.map _).nodup_iff.2 (rising_nodup hok.rising)
  obtain ⟨vw, hvw, hVw⟩ : ∃ vw, (T.getK o.key.data.toList (M.map mkv)).getD (.slice none 0 0) = vw ∧ VS 999 c w4 vw ((T.getK o.key.data.toList S.R).getD []) := by
    rw [← perm_get hp hnodM, getK_mkv, getK_mkr]
    cases hg : T.getK o.key.data.toList M with
    | none => exact ⟨_, rfl, VS.nil _ _ _⟩
    | some p => exact ⟨_, rfl, h4.ms _ (getT_mem hg)⟩
  have hwasL : ((T.getK o.key.data.toList S.R).getD []).length ≤ 1000 := by
    cases hg : T.getK o.key.data.toList S.R with
    | none => simp
    | some r => exact hok.recl _ (getT_mem hg)
  refine draw (Below w4.heap.size w4) hdr ?_
  (repeat with_reducible first | refine yfd p0 (by decide) ?_| refine yl1 oneMp yr0 ?_| refine yfd of1 (by decide) ?_| refine yl1 one9 yr1 ?_|refine z_W ?_|refine z_a ?_|refine z_b ?_|refine z_c ?_|refine z_d ?_|refine z_e ?_|refine z_f ?_|refine z_g ?_|refine z_h ?_|refine z_i ?_|refine z_j ?_|refine z_k ?_|refine z_l ?_|refine z_X (by omega) ?_|refine z_Y (by omega) ?_|refine z_Z (by omega) ?_|refine z_a1 (by omega) ?_|refine z_b1 (by omega) ?_|refine z_c1 (by omega) ?_|refine z_d1 (by omega) ?_|refine z_e1 (by omega) ?_|refine z_f1 (by omega) ?_|refine z_g1 (by omega) ?_|refine z_h1 (by omega) ?_|refine z_i1 (by omega) ?_|refine z_j1 (by omega) ?_|refine z_k1 (by omega) ?_|refine z_l1 ?_|refine z_m1 ?_|refine z_n1 ?_|refine z_o1 ?_|refine z_p1 ?_|refine z_q1 ?_|refine z_r1 ?_|refine z_s1 ?_|refine z_t1 ?_|refine z_u1 ?_|refine z_v1 (by omega) (by decide) ?_|refine z_w1 (by omega) (by decide) ?_|refine z_x1 (by omega) ?_|refine z_y1 (by omega) ?_|refine z_z1 (by omega) ?_|refine z_A1 ?_|refine z_B1 ?_|refine z_C1 ?_|refine z_D1 ?_|refine z_E1 ?_|refine z_F1 (by decide) ?_|refine z_G1 (by decide) ?_)
  refine T.ylkp undMp und9 zRec (fun w' hb => h4.map.below hb) ?_
  rw [hvw]
  (repeat with_reducible first|refine z_W ?_|refine z_a ?_|refine z_b ?_|refine z_c ?_|refine z_d ?_|refine z_e ?_|refine z_f ?_|refine z_g ?_|refine z_h ?_|refine z_i ?_|refine z_j ?_|refine z_k ?_|refine z_l ?_|refine z_X (by omega) ?_|refine z_Y (by omega) ?_|refine z_Z (by omega) ?_|refine z_a1 (by omega) ?_|refine z_b1 (by omega) ?_|refine z_c1 (by omega) ?_|refine z_d1 (by omega) ?_|refine z_e1 (by omega) ?_|refine z_f1 (by omega) ?_|refine z_g1 (by omega) ?_|refine z_h1 (by omega) ?_|refine z_i1 (by omega) ?_|refine z_j1 (by omega) ?_|refine z_k1 (by omega) ?_|refine z_l1 ?_|refine z_m1 ?_|refine z_n1 ?_|refine z_o1 ?_|refine z_p1 ?_|refine z_q1 ?_|refine z_r1 ?_|refine z_s1 ?_|refine z_t1 ?_|refine z_u1 ?_|refine z_v1 (by omega) (by decide) ?_|refine z_w1 (by omega) (by decide) ?_|refine z_x1 (by omega) ?_|refine z_y1 (by omega) ?_|refine z_z1 (by omega) ?_|refine z_A1 ?_|refine z_B1 ?_|refine z_C1 ?_|refine z_D1 ?_|refine z_E1 ?_|refine z_F1 (by decide) ?_|refine z_G1 (by decide) ?_)
  generalize w4.drew = wd at *
  have hOd := hO4.below' hdr
  have hVwd := hVw.below hdr
  refine JoinP.cut (fun vs w' => False) ?_ (fun _ _ h => h.elim)
  intro J hJ
  (repeat with_reducible first | refine fd of0 (by decide) ?_| refine ld one3 (opk0 hOd _ (Below.refl _ _)) ?_|refine z_a ?_|refine z_b ?_|refine z_c ?_|refine z_d ?_|refine z_e ?_|refine z_f ?_|refine z_g ?_|refine z_h ?_|refine z_i ?_|refine z_j ?_|refine z_k ?_|refine z_l ?_|refine z_m (by omega) ?_|refine z_n (by omega) ?_|refine z_o (by omega) ?_|refine z_p (by omega) ?_|refine z_q (by omega) ?_|refine z_r (by omega) ?_|refine z_s (by omega) ?_|refine z_t (by omega) ?_|refine z_u (by omega) ?_|refine z_v (by omega) ?_|refine z_w (by omega) ?_|refine z_x (by omega) ?_|refine z_y (by omega) ?_|refine z_z (by omega) ?_|refine z_A ?_|refine z_B ?_|refine z_C ?_|refine z_D ?_|refine z_E ?_|refine z_F ?_|refine z_G ?_|refine z_H ?_|refine z_I ?_|refine z_J ?_|refine z_K (by omega) (by decide) ?_|refine z_L (by omega) (by decide) ?_|refine z_M (by omega) ?_|refine z_N (by omega) ?_|refine z_O (by omega) ?_|refine z_P ?_|refine z_Q ?_|refine z_R ?_|refine z_S ?_|refine z_T ?_|refine z_U (by decide) ?_|refine z_V (by decide) ?_)
  refine (Clone45 vw _ wd hVwd.rd (by omega)).mono ?_
  intro vc w5 hv5
  obtain ⟨A, cc, rfl, _⟩ := hv5.slice
  refine repL (cells := #[.int .i64 0, .bool (T.getK o.key.data.toList (M.map mkv)).isSome, .slice A ((T.getK o.key.data.toList S.R).getD []).length cc, .slice none 0 0, .int .i64 0]) (by kernel_rfl) rfl (allOne (l := [_, _, _, _, _]) rfl) (hRep4.below' (below_then hdr hv5.bel)) rfl ?_
  intro w6 hT
  have hov := hv5.old (below_then hb04 hdr)
  refine ⟨_, _, rfl, ⟨ownsRow_turns hov.own hT fun k hk e => ?_, hov.fresh, below_own hov.bel hT hg4w⟩⟩
  have := hv5.fresh k hk
  have h5 := hRep4.lt
  have h6 := hdr.size
  omega
end Go.Proofs.YtonblppkidpmlaaGreatDoor.E
