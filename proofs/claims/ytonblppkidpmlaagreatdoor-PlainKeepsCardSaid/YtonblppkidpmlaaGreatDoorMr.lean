import Derived.Test.YtonblppkidpmlaaGreatDoorMq
namespace Go.Proofs.YtonblppkidpmlaaGreatDoor.E
open Go Go.RowKit
set_option linter.unusedSimpArgs false
set_option linter.unusedVariables false

end Go.Proofs.YtonblppkidpmlaaGreatDoor.E
namespace Go.Proofs.YtonblppkidpmlaaGreatDoor.E
open Go Go.RowKit
set_option linter.unusedSimpArgs false
set_option linter.unusedVariables false

theorem ownsRow_ne {s s' : Nat} {e e' : TypeId} {w : World} {v v' : Value} {n n' : Nat} {xs xs' : List Value} (h : w.ownsRow 0 e s v n xs) (h' : w.ownsRow 0 e' s' v' n' xs') (hne : e ≠ e') : ∀ j, v'.ownBlock = some j → ¬ v.ownBlock = some j := by
  intro j hj hk
  rcases h.2 with ⟨rfl, _⟩ | ⟨g, cap, cur, rfl, _, hg, _⟩
  · cases hk
  · rcases h'.2 with ⟨rfl, _⟩ | ⟨g', cap', cur', rfl, _, hg', _⟩
    · cases hj
    · have e1 : g = j := by simpa [Value.ownBlock] using hk
      have e2 : g' = j := by simpa [Value.ownBlock] using hj
      rw [e1] at hg
      rw [e2, hg] at hg'
      simp only [Option.some.injEq, Obj.cells.injEq] at hg'
      exact hne hg'.2.1
/-- Indexes that read so. -/
structure IxAt (w : World) (v : Value) (L : List Xm) : Prop where
  row : OwnR 2 53 w v L.length (L.flatMap xmF)
  ms : ∀ x ∈ L, Rd w x.fv (iV x.fs)
theorem IxAt.below {w w' : World} {v : Value} {L : List Xm} (h : IxAt w v L) (hb : Below w.heap.size w w') : IxAt w' v L :=
  ⟨h.row.turns' (F := fun _ => False) (Turns.of_below hb) fun _ _ h => h, fun x hx => (h.ms x hx).below hb⟩
/-- Indexes of the call's own, the fields of each a row of the call's own. -/
structure OwnXs (w0 w : World) (v : Value) (L : List Xm) : Prop where
  row : OwnL xmF 2 53 w0 w v L
  ms : ∀ x ∈ L, Own 3 w x.fv (iV x.fs) ∧ Fresh w0.heap.size x.fv
section
variable {w0 w w' : World} {v : Value} {L : List Xm}
theorem OwnXs.nil (hb : Below w0.heap.size w0 w) : OwnXs w0 w (.slice none 0 0) [] := ⟨OwnL.nil hb, by simp⟩
theorem OwnXs.kept (h : OwnXs w0 w v L) (hb : Below w.heap.size w w') : OwnXs w0 w' v L := ⟨h.row.kept hb, fun x hx => ⟨(h.ms x hx).1.below hb, (h.ms x hx).2⟩⟩
theorem OwnXs.at (h : OwnXs w0 w v L) : IxAt w v L := ⟨OwnR.of_own h.row.own, fun x hx => (h.ms x hx).1.rd⟩
theorem OwnXs.grow {w6 : World} {v6 : Value} (h : OwnXs w0 w v L) (x : Xm) (hx : Own 3 w x.fv (iV x.fs) ∧ Fresh w0.heap.size x.fv) (ho : w6.ownsRow 0 53 2 v6 (L.length + 1) (L.flatMap xmF ++ xmF x))
    (hbl : v6.ownBlock = v.ownBlock ∨ ∃ j, v6.ownBlock = some j ∧ w.heap.size ≤ j) (hT : Turns (fun j => v.ownBlock = some j) w w6) : OwnXs w0 w6 v6 (L ++ [x]) := by
  have e : (L ++ [x]).flatMap xmF = L.flatMap xmF ++ xmF x := by simp
  refine ⟨⟨by rw [e, List.length_append]; exact ho, h.row.fresh.one h.row.bel.size hbl, h.row.bel.trans (hT.fresh h.row.fresh h.row.bel.size)⟩, fun y hy => ?_⟩
  rcases List.mem_append.1 hy with hy | hy
  · exact ⟨(h.ms y hy).1.turns hT (ownsRow_ne h.row.own (h.ms y hy).1 (by decide)), (h.ms y hy).2⟩
  · simp only [List.mem_cons, List.not_mem_nil, or_false] at hy
    subst hy
    exact ⟨hx.1.turns hT (ownsRow_ne h.row.own hx.1 (by decide)), hx.2⟩
end
def xmP (x : Xm) : Int × List Int := (x.id, x.fs)
theorem ckI_small {fs : List Int} (h : fs = [] ∨ ckI fs = 0) : fs.length ≤ 2 := by
  rcases h with rfl | h
  · simp
  · have := ckI_len h; omega
set_option maxHeartbeats 1000000 in
theorem Indexes21 {hu : Nat} {c : Nat → Nat} {w : World} {g n : Nat} {S : StT} (hS : PlS hu c w g S) (hok : StOk n S) :
    CallP Tryz.prog 21 #[.pointer (some ⟨g, 0, none⟩)] (fun r w' => ∃ L, L.map xmP = idxV 0 S.X ∧ OwnXs w w' r L) w := by
  obtain ⟨b, vX, M, X, h, hp, hX, hids⟩ := hS
  have hXl := X_len hX
  have hx6 := hok.xmany
  refine ⟨S21.calls _ _ _ ?_⟩
  unfold S21
  obtain ⟨A, cX, hvX, _⟩ := (OwnR.of_own h.xs).slice
  have q1 : w.cell? ⟨g, 1, none⟩ = some (.slice A X.length cX) := by rw [← hvX]; exact h.blk.cell 1
  (repeat with_reducible first | refine fd p1 (by decide) ?_| refine ld oneXs q1 ?_|refine z_a ?_|refine z_b ?_|refine z_c ?_|refine z_d ?_|refine z_e ?_|refine z_f ?_|refine z_g ?_|refine z_h ?_|refine z_i ?_|refine z_j ?_|refine z_k ?_|refine z_l ?_|refine z_m (by omega) ?_|refine z_n (by omega) ?_|refine z_o (by omega) ?_|refine z_p (by omega) ?_|refine z_q (by omega) ?_|refine z_r (by omega) ?_|refine z_s (by omega) ?_|refine z_t (by omega) ?_|refine z_u (by omega) ?_|refine z_v (by omega) ?_|refine z_w (by omega) ?_|refine z_x (by omega) ?_|refine z_y (by omega) ?_|refine z_z (by omega) ?_|refine z_A ?_|refine z_B ?_|refine z_C ?_|refine z_D ?_|refine z_E ?_|refine z_F ?_|refine z_G ?_|refine z_H ?_|refine z_I ?_|refine z_J ?_|refine z_K (by omega) (by decide) ?_|refine z_L (by omega) (by decide) ?_|refine z_M (by omega) ?_|refine z_N (by omega) ?_|refine z_O (by omega) ?_|refine z_P ?_|refine z_Q ?_|refine z_R ?_|refine z_S ?_|refine z_T ?_|refine z_U (by decide) ?_|refine z_V (by decide) ?_)
  refine ln undSt ?_
  refine LoopP.inv2 (fun ov iv w' => ∃ (i : Nat) (L : List Xm), i ≤ X.length ∧ iv = .int .i64 i ∧ L.map xmP = idxV 0 (S.X.take i) ∧ OwnXs w w' ov L) (fun _ iv _ => X.length - (intOf iv).toNat) ⟨0, [], by omega, rfl, by simp [idxV], OwnXs.nil (Below.refl _ _)⟩ ?_
  rintro ov _ w1 ⟨i, L, hi, rfl, hL, ho⟩ J hJ
  dsimp only [List.headD_cons, List.tail_cons]
  refine bi_lss_c (fun h1 => ?_) (fun h1 => ?_)
  · have hi' : i < X.length := by omega
    have hb1 := ho.row.bel
    have h1' := h.below hb1
    have hSx : i < S.X.length := by omega
    have hSe : S.X[i] = X[i].fs := by
      have : (X.map (·.fs))[i]? = S.X[i]? := by rw [hX]
      rw [List.getElem?_map, List.getElem?_eq_getElem hi', List.getElem?_eq_getElem hSx] at this
      exact (Option.some.inj this).symm
    have hstep := idxV_take 0 S.X i hSx
    rw [hSe] at hstep
    have hLl : L.length ≤ 6 := by
      have := congrArg List.length hL
      rw [List.length_map] at this
      have h2 : (idxV 0 (S.X.take i)).length ≤ (S.X.take i).length := by
        have : ∀ (m : Nat) (Y : List (List Int)), (idxV m Y).length ≤ Y.length := by
          intro m Y
          induction Y generalizing m with
          | nil => simp [idxV]
          | cons fs t ih =>
            unfold idxV
            have := ih (m + 1)
            split <;> simp only [List.length_cons] <;> omega
        exact this _ _
      rw [List.length_take] at h2
      omega
    have hfs2 : X[i].fs.length ≤ 2 := by rw [← hSe]; exact ckI_small (hok.xs _ (List.getElem_mem hSx))
    have hidx := hids i X[i] (List.getElem?_eq_getElem hi')
    refine CondP.yes rfl ?_
    refine JoinP.cut (fun vs w' => ∃ v L', vs = [v] ∧ L'.map xmP = idxV 0 (S.X.take (i + 1)) ∧ OwnXs w w' v L') ?_ ?_
    · intro J1 hJ1
      obtain ⟨gx, cx, he, hcell⟩ := rowAt xmF_len (OwnR.of_own h1'.xs) i hi' (by decide)
      rw [hvX] at he
      cases he
      obtain ⟨Af, cf, hfv, _⟩ := (h1'.xm X[i] (List.getElem_mem hi')).rd.slice
      have hfl : (iV X[i].fs).length = X[i].fs.length := List.length_map _
      rw [hfl] at hfv
      have hrd := (h1'.xm X[i] (List.getElem_mem hi')).rd
      refine ixG undSt szIx i hi' ?_
      have hca : ∀ j u, (xmF X[i])[j]? = some u → w1.cell? ((⟨gx, i * 2, none⟩ : Addr).add j) = some u := fun j u hu => by
        rw [add0]
        exact hcell j u hu
      refine ldR aggIx hca (by rw [szIx]; rfl) ?_
      refine cpB zIx (cells := (xmF X[i]).toArray) (by rw [szIx]; rfl) (by rfl) (allOne (by unfold xmF; rw [hfv]; rfl)) ?_
      intro g5 w2 hg5 hB5 hb2
      have r0 : ∀ w', Blk w' g5 53 (xmF X[i]).toArray → w'.cell? ⟨g5, 0, none⟩ = some (.int .i64 X[i].id) := fun w' hB => hB.cell 0
      have r1 : ∀ w', Blk w' g5 53 (xmF X[i]).toArray → w'.cell? ⟨g5, 1, none⟩ = some (.slice Af X[i].fs.length cf) := fun w' hB => by rw [← hfv]; exact hB.cell 1
      (repeat with_reducible first | refine fd x1 (by decide) ?_| refine ld oneIs (r1 _ hB5) ?_|refine z_a ?_|refine z_b ?_|refine z_c ?_|refine z_d ?_|refine z_e ?_|refine z_f ?_|refine z_g ?_|refine z_h ?_|refine z_i ?_|refine z_j ?_|refine z_k ?_|refine z_l ?_|refine z_m (by omega) ?_|refine z_n (by omega) ?_|refine z_o (by omega) ?_|refine z_p (by omega) ?_|refine z_q (by omega) ?_|refine z_r (by omega) ?_|refine z_s (by omega) ?_|refine z_t (by omega) ?_|refine z_u (by omega) ?_|refine z_v (by omega) ?_|refine z_w (by omega) ?_|refine z_x (by omega) ?_|refine z_y (by omega) ?_|refine z_z (by omega) ?_|refine z_A ?_|refine z_B ?_|refine z_C ?_|refine z_D ?_|refine z_E ?_|refine z_F ?_|refine z_G ?_|refine z_H ?_|refine z_I ?_|refine z_J ?_|refine z_K (by omega) (by decide) ?_|refine z_L (by omega) (by decide) ?_|refine z_M (by omega) ?_|refine z_N (by omega) ?_|refine z_O (by omega) ?_|refine z_P ?_|refine z_Q ?_|refine z_R ?_|refine z_S ?_|refine z_T ?_|refine z_U (by decide) ?_|refine z_V (by decide) ?_)
      refine ln undIs ?_
      refine bi_gtr_c (fun h2 => ?_) (fun h2 => ?_)
      · (repeat with_reducible first|refine z_a ?_|refine z_b ?_|refine z_c ?_|refine z_d ?_|refine z_e ?_|refine z_f ?_|refine z_g ?_|refine z_h ?_|refine z_i ?_|refine z_j ?_|refine z_k ?_|refine z_l ?_|refine z_m (by omega) ?_|refine z_n (by omega) ?_|refine z_o (by omega) ?_|refine z_p (by omega) ?_|refine z_q (by omega) ?_|refine z_r (by omega) ?_|refine z_s (by omega) ?_|refine z_t (by omega) ?_|refine z_u (by omega) ?_|refine z_v (by omega) ?_|refine z_w (by omega) ?_|refine z_x (by omega) ?_|refine z_y (by omega) ?_|refine z_z (by omega) ?_|refine z_A ?_|refine z_B ?_|refine z_C ?_|refine z_D ?_|refine z_E ?_|refine z_F ?_|refine z_G ?_|refine z_H ?_|refine z_I ?_|refine z_J ?_|refine z_K (by omega) (by decide) ?_|refine z_L (by omega) (by decide) ?_|refine z_M (by omega) ?_|refine z_N (by omega) ?_|refine z_O (by omega) ?_|refine z_P ?_|refine z_Q ?_|refine z_R ?_|refine z_S ?_|refine z_T ?_|refine z_U (by decide) ?_|refine z_V (by decide) ?_)
        have hdr : Below w2.heap.size w2 w2.drew := (Below.refl _ _).drew
        refine draw (fun w' => Blk w' g5 53 (xmF X[i]).toArray) (hB5.below' hdr) ?_
        (repeat with_reducible first | refine yfd x0 (by decide) ?_| refine yl1 one3 r0 ?_| refine yfd x1 (by decide) ?_| refine yl1 oneIs r1 ?_|refine z_W ?_|refine z_a ?_|refine z_b ?_|refine z_c ?_|refine z_d ?_|refine z_e ?_|refine z_f ?_|refine z_g ?_|refine z_h ?_|refine z_i ?_|refine z_j ?_|refine z_k ?_|refine z_l ?_|refine z_X (by omega) ?_|refine z_Y (by omega) ?_|refine z_Z (by omega) ?_|refine z_a1 (by omega) ?_|refine z_b1 (by omega) ?_|refine z_c1 (by omega) ?_|refine z_d1 (by omega) ?_|refine z_e1 (by omega) ?_|refine z_f1 (by omega) ?_|refine z_g1 (by omega) ?_|refine z_h1 (by omega) ?_|refine z_i1 (by omega) ?_|refine z_j1 (by omega) ?_|refine z_k1 (by omega) ?_|refine z_l1 ?_|refine z_m1 ?_|refine z_n1 ?_|refine z_o1 ?_|refine z_p1 ?_|refine z_q1 ?_|refine z_r1 ?_|refine z_s1 ?_|refine z_t1 ?_|refine z_u1 ?_|refine z_v1 (by omega) (by decide) ?_|refine z_w1 (by omega) (by decide) ?_|refine z_x1 (by omega) ?_|refine z_y1 (by omega) ?_|refine z_z1 (by omega) ?_|refine z_A1 ?_|refine z_B1 ?_|refine z_C1 ?_|refine z_D1 ?_|refine z_E1 ?_|refine z_F1 (by decide) ?_|refine z_G1 (by decide) ?_)
        refine act ?_
        have hb2d := below_then hb2 hdr
        refine (Clone28 _ X[i].fs (by omega) w2.drew (by rw [← hfv]; exact hrd.below hb2d)).mono ?_
        rintro vc w3 ⟨hoc, hfc, hb3⟩
        have hb23 := below_then hdr hb3
        refine ⟨_, hB5.below' hb23, fun _ h => h, ?_⟩
        obtain ⟨Ac, cc, rfl⟩ := hoc.slice
        refine ybd (cells := (xmF ⟨X[i].id, .slice Ac (iV X[i].fs).length cc, X[i].fs⟩).toArray) (by kernel_rfl) ?_
        have ho3 := ho.kept (below_then hb2 hb23)
        have hd2 := hdr.size
        have hs2 := hb2.size
        have hs1 := hb1.size
        refine apOneA (us := xmF ⟨X[i].id, .slice Ac (iV X[i].fs).length cc, X[i].fs⟩) undSt infIx (by rfl) (by decide) ho3.row.own rfl (fun u hu => by
          simp only [xmF, List.mem_cons, List.not_mem_nil, or_false] at hu
          rcases hu with rfl | rfl <;> rfl) (by omega) (by omega) (by kernel_rfl) (fun w' hb => (hB5.below' hb23).below' hb) ?_
        intro v6 w6 ho6 hbl6 hT6
        have hgl : ∀ k, ov.ownBlock = some k → k < w1.heap.size := fun k hk => ownsRow_lt ho.row.own hk
        refine ⟨_, (hB5.below' hb23).turns hT6 fun e => by have := hgl _ e; omega, fun _ h => h, ?_⟩
        refine hJ1 _ _ ⟨_, _, rfl, ?_, ho3.grow ⟨X[i].id, .slice Ac (iV X[i].fs).length cc, X[i].fs⟩ ⟨hoc, fun k hk => by have := hfc k hk; omega⟩ ho6 hbl6 hT6⟩
        rw [List.map_append, hL, hstep, if_neg (by omega), hidx]
        simp [xmP]
      · (repeat with_reducible first|refine z_a ?_|refine z_b ?_|refine z_c ?_|refine z_d ?_|refine z_e ?_|refine z_f ?_|refine z_g ?_|refine z_h ?_|refine z_i ?_|refine z_j ?_|refine z_k ?_|refine z_l ?_|refine z_m (by omega) ?_|refine z_n (by omega) ?_|refine z_o (by omega) ?_|refine z_p (by omega) ?_|refine z_q (by omega) ?_|refine z_r (by omega) ?_|refine z_s (by omega) ?_|refine z_t (by omega) ?_|refine z_u (by omega) ?_|refine z_v (by omega) ?_|refine z_w (by omega) ?_|refine z_x (by omega) ?_|refine z_y (by omega) ?_|refine z_z (by omega) ?_|refine z_A ?_|refine z_B ?_|refine z_C ?_|refine z_D ?_|refine z_E ?_|refine z_F ?_|refine z_G ?_|refine z_H ?_|refine z_I ?_|refine z_J ?_|refine z_K (by omega) (by decide) ?_|refine z_L (by omega) (by decide) ?_|refine z_M (by omega) ?_|refine z_N (by omega) ?_|refine z_O (by omega) ?_|refine z_P ?_|refine z_Q ?_|refine z_R ?_|refine z_S ?_|refine z_T ?_|refine z_U (by decide) ?_|refine z_V (by decide) ?_)
        refine hJ1 _ _ ⟨_, L, rfl, ?_, ho.kept hb2⟩
        rw [hL, hstep, if_pos (by omega), List.append_nil]
    · rintro _ w2 ⟨v, L', rfl, hL', ho'⟩
      dsimp only [List.headD_cons, List.tail_cons]
      (repeat with_reducible first|refine z_a ?_|refine z_b ?_|refine z_c ?_|refine z_d ?_|refine z_e ?_|refine z_f ?_|refine z_g ?_|refine z_h ?_|refine z_i ?_|refine z_j ?_|refine z_k ?_|refine z_l ?_|refine z_m (by omega) ?_|refine z_n (by omega) ?_|refine z_o (by omega) ?_|refine z_p (by omega) ?_|refine z_q (by omega) ?_|refine z_r (by omega) ?_|refine z_s (by omega) ?_|refine z_t (by omega) ?_|refine z_u (by omega) ?_|refine z_v (by omega) ?_|refine z_w (by omega) ?_|refine z_x (by omega) ?_|refine z_y (by omega) ?_|refine z_z (by omega) ?_|refine z_A ?_|refine z_B ?_|refine z_C ?_|refine z_D ?_|refine z_E ?_|refine z_F ?_|refine z_G ?_|refine z_H ?_|refine z_I ?_|refine z_J ?_|refine z_K (by omega) (by decide) ?_|refine z_L (by omega) (by decide) ?_|refine z_M (by omega) ?_|refine z_N (by omega) ?_|refine z_O (by omega) ?_|refine z_P ?_|refine z_Q ?_|refine z_R ?_|refine z_S ?_|refine z_T ?_|refine z_U (by decide) ?_|refine z_V (by decide) ?_)
      exact hJ _ _ _ ⟨i + 1, L', by omega, by simp, hL', ho'⟩ (by simp [intOf]; omega)
  · have : i = X.length := by omega
    subst this
    rw [hXl, List.take_length] at hL
    (repeat with_reducible first|refine z_a ?_|refine z_b ?_|refine z_c ?_|refine z_d ?_|refine z_e ?_|refine z_f ?_|refine z_g ?_|refine z_h ?_|refine z_i ?_|refine z_j ?_|refine z_k ?_|refine z_l ?_|refine z_m (by omega) ?_|refine z_n (by omega) ?_|refine z_o (by omega) ?_|refine z_p (by omega) ?_|refine z_q (by omega) ?_|refine z_r (by omega) ?_|refine z_s (by omega) ?_|refine z_t (by omega) ?_|refine z_u (by omega) ?_|refine z_v (by omega) ?_|refine z_w (by omega) ?_|refine z_x (by omega) ?_|refine z_y (by omega) ?_|refine z_z (by omega) ?_|refine z_A ?_|refine z_B ?_|refine z_C ?_|refine z_D ?_|refine z_E ?_|refine z_F ?_|refine z_G ?_|refine z_H ?_|refine z_I ?_|refine z_J ?_|refine z_K (by omega) (by decide) ?_|refine z_L (by omega) (by decide) ?_|refine z_M (by omega) ?_|refine z_N (by omega) ?_|refine z_O (by omega) ?_|refine z_P ?_|refine z_Q ?_|refine z_R ?_|refine z_S ?_|refine z_T ?_|refine z_U (by decide) ?_|refine z_V (by decide) ?_)
    exact ⟨L, hL, ho⟩
end Go.Proofs.YtonblppkidpmlaaGreatDoor.E
