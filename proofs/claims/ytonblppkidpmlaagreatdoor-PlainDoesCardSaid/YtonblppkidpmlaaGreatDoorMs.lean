import Derived.Test.YtonblppkidpmlaaGreatDoorMr
namespace Go.Proofs.YtonblppkidpmlaaGreatDoor.E
open Go Go.RowKit
set_option linter.unusedSimpArgs false
set_option linter.unusedVariables false

theorem SameIndexes29 (v v' : Value) (L L' : List Xm) (w : World) (hv : IxAt w v L) (hv' : IxAt w v' L') (he : L.map xmP = L'.map xmP) :
    CallP Tryz.prog 29 #[v, v'] (fun r w' => r = .bool true ∧ Below w.heap.size w w') w := by
  have hlen : L.length = L'.length := by
    have := congrArg List.length he
    rwa [List.length_map, List.length_map] at this
  obtain ⟨A, c, rfl, hc, hcm⟩ := hv.row.slice
  obtain ⟨A', c', rfl, _⟩ := hv'.row.slice
  simp only [maxLen] at hcm
  refine ⟨S29.calls _ _ _ _ ?_⟩
  unfold S29
  refine ln undSt ?_
  refine ln undSt ?_
  (repeat with_reducible first|refine z_c ?_|refine z_t (by omega) ?_)
  refine LoopP.inv1 (fun iv w' => ∃ k : Nat, k ≤ L.length ∧ iv = .int .i64 k ∧ Below w.heap.size w w') (fun iv _ => L.length - (intOf iv).toNat) ⟨0, by omega, rfl, Below.refl _ _⟩ ?_
  rintro _ w1 ⟨k, hk, rfl, hb1⟩ J hJ
  dsimp only [List.headD_cons, List.tail_cons]
  refine ln undSt ?_
  refine bi_lss_c (fun h => ?_) (fun h => ?_)
  rotate_left
  · (repeat with_reducible first|refine z_c ?_)
    exact ⟨by first | rfl | trivial, hb1⟩
  have hk' : k < L.length := by omega
  have hkn : k < L'.length := by omega
  have ee : (L[k].id, L[k].fs) = (L'[k].id, L'[k].fs) := by
    have : (L.map xmP)[k]? = (L'.map xmP)[k]? := by rw [he]
    rw [List.getElem?_map, List.getElem?_map, List.getElem?_eq_getElem hk', List.getElem?_eq_getElem hkn] at this
    exact Option.some.inj this
  have ei : L[k].id = L'[k].id := (congrArg Prod.fst ee :)
  have ef : L[k].fs = L'[k].fs := (congrArg Prod.snd ee :)
  have hdr : Below w1.heap.size w1 w1.drew := (Below.refl _ _).drew
  have h1 := hv.below hb1
  have h2 := hv'.below hb1
  obtain ⟨g1, c1, he1, hc1⟩ := rowAt xmF_len h1.row k hk' (by decide)
  cases he1
  obtain ⟨g2, c2, he2, hc2⟩ := rowAt xmF_len h2.row k hkn (by decide)
  cases he2
  have a0 := keepR hc1 0 _ rfl
  have a1 := keepR hc1 1 _ rfl
  have b0 := keepR hc2 0 _ rfl
  have b1 := keepR hc2 1 _ rfl
  have m1 := h1.ms _ (List.getElem_mem hk')
  have m2 := h2.ms _ (List.getElem_mem hkn)
  obtain ⟨F1, e1, hf1, hl1, hl1m⟩ := m1.slice
  obtain ⟨F2, e2, hf2, _⟩ := m2.slice
  have l1 : (iV L[k].fs).length = L[k].fs.length := List.length_map _
  have l2 : (iV L'[k].fs).length = L'[k].fs.length := List.length_map _
  rw [l1] at hf1 hl1
  rw [l2, ← ef] at hf2
  rw [hf1] at a1
  rw [hf2] at b1
  rw [← ei] at b0
  rw [hf1] at m1
  rw [hf2, ← ef] at m2
  (repeat with_reducible first|refine z_b ?_)
  refine draw (Below w1.heap.size w1) hdr ?_
  refine yixG undSt szIx k hk' ?_
  (repeat with_reducible first|refine yfdG x0 (by decide) ?_|refine yl1 one3 a0 ?_)
  refine yixG undSt szIx k hkn ?_
  (repeat with_reducible first|refine yfdG x0 (by decide) ?_|refine yl1 one3 b0 ?_|refine z_d ?_|refine z_e1 (by omega) ?_)
  refine yixG undSt szIx k hk' ?_
  (repeat with_reducible first|refine yfdG x1 (by decide) ?_|refine yl1 oneIs a1 ?_|refine yln undIs ?_|refine z_d ?_)
  refine yixG undSt szIx k hkn ?_
  (repeat with_reducible first|refine yfdG x1 (by decide) ?_|refine yl1 oneIs b1 ?_|refine yln undIs ?_|refine z_c ?_|refine z_d ?_|refine z_l ?_|refine z_e1 (by omega) ?_)
  have hb01 := below_then hb1 hdr
  refine LoopP.inv1 (fun jv w' => ∃ j : Nat, j ≤ L[k].fs.length ∧ jv = .int .i64 j ∧ Below w1.heap.size w1 w') (fun jv _ => L[k].fs.length - (intOf jv).toNat) ⟨0, by omega, rfl, hdr⟩ ?_
  rintro _ w2 ⟨j, hj, rfl, hb2⟩ J2 hJ2
  dsimp only [List.headD_cons, List.tail_cons]
  refine ixG undSt szIx k hk' ?_
  (repeat with_reducible first|refine fdG x1 (by decide) ?_|refine ld oneIs (a1 _ hb2) ?_)
  refine ln undIs ?_
  refine bi_lss_c (fun h3 => ?_) (fun h3 => ?_)
  · have hj' : j < L[k].fs.length := by omega
    obtain ⟨p, rfl, hp⟩ := Rd.atI (m1.below hb2) j hj'
    obtain ⟨q, rfl, hq⟩ := Rd.atI (m2.below hb2) j hj'
    have hdr2 : Below w2.heap.size w2 w2.drew := (Below.refl _ _).drew
    have hb22 := below_then hb2 hdr2
    have a1' : ∀ w', Below w2.heap.size w2 w' → _ := fun w' hb => a1 w' (below_then hb2 hb)
    have b1' : ∀ w', Below w2.heap.size w2 w' → _ := fun w' hb => b1 w' (below_then hb2 hb)
    (repeat with_reducible first|refine z_b ?_)
    refine draw (Below w2.heap.size w2) hdr2 ?_
    refine yixG undSt szIx k hk' ?_
    (repeat with_reducible first|refine yfdG x1 (by decide) ?_|refine yl1 oneIs a1' ?_)
    refine yix1 undIs szI j hj' ?_
    (repeat with_reducible first|refine yl1 oneI (RdKeep hp) ?_)
    refine yixG undSt szIx k hkn ?_
    (repeat with_reducible first|refine yfdG x1 (by decide) ?_|refine yl1 oneIs b1' ?_)
    refine yix1 undIs szI j hj' ?_
    (repeat with_reducible first|refine yl1 oneI (RdKeep hq) ?_|refine z_c ?_|refine z_e1 (by omega) ?_)
    (repeat with_reducible first|refine z_o (by omega) ?_)
    exact hJ2 _ _ ⟨j + 1, by omega, by simp, hb22⟩ (by simp [intOf]; omega)
  · (repeat with_reducible first|refine z_c ?_|refine z_o (by omega) ?_)
    exact hJ _ _ ⟨k + 1, by omega, by simp, below_then hb1 hb2⟩ (by simp [intOf]; omega)
end Go.Proofs.YtonblppkidpmlaaGreatDoor.E
