import Derived.Test.YtonblppkidpmlaaGreatDoorMt
namespace Go.Proofs.YtonblppkidpmlaaGreatDoor.E
open Go Go.RowKit
set_option linter.unusedSimpArgs false
set_option linter.unusedVariables false

/-- One element of a row of structs of the call's own is written whole. -/
theorem stO {P : Program} {K : Value → World → Prop} {w : World} {s : Nat} {e t : TypeId} {g n c : Nat} {cs : List Value} {cells : Array Value} (h : w.ownsRow 0 e s (.slice (some ⟨g, 0, none⟩) n c) n cs) (i : Nat) (hi : i < n) (hs : cells.size = s) (hinfo : (P.info? t).map (·.size) = some s) (h1 : cells.all (·.oneCell') = true)
    (k : ∀ w', w'.ownsRow 0 e s (.slice (some ⟨g, 0, none⟩) n c) n (cs.take (i * s) ++ cells.toList ++ cs.drop (i * s + s)) → Turns (fun j => j = g) w w' → K undef w') : LiftU P (Instr.storeAt t (.pointer (some ⟨g, i * s, none⟩)) (.agg cells)) K w := by
  obtain ⟨hl, h⟩ := h
  rcases h with ⟨h, _⟩ | ⟨g', c', cur, he, hg, hb, h2, h3, h4, h5⟩
  · cases h
  cases he
  have hb : Blk w g e cur := hb
  have hle : i * s + s ≤ n * s := by
    have := Nat.mul_le_mul_right s (show i + 1 ≤ n from hi)
    rw [Nat.succ_mul] at this; omega
  have hcs : n * s ≤ c * s := Nat.mul_le_mul_right s h2
  refine stM hb (by rw [hinfo, hs]) (by omega) h1 (k _ ⟨?_, .inr ⟨g, c, _, rfl, hg, hb.row _, h2, h3, ?_, ?_⟩⟩ (Turns.setRow (F := fun j => j = g) (Turns.refl _ w) (.inl rfl) _))
  · simp only [List.length_append, List.length_take, List.length_drop, Array.length_toList, hl, hs]; omega
  · simp only [List.size_toArray, List.length_append, List.length_take, List.length_drop, Array.length_toList, hs]; omega
  · rw [List.toList_toArray, hs, take_mid (n * s) (i * s) s cur.toList cells.toList (by simpa using hs) hle (by simp; omega), h5]
abbrev Sh := Txt × Mm
def shF (s : Sh) : List Value := [tS s.1, tS s.2.1, s.2.2.1]
theorem shF_len (s : Sh) : (shF s).length = 3 := rfl
def shE (s : Sh) : En := (s.1, s.2.1)
def sh0 : Sh := ([], ([], (.slice none 0 0, [])))
theorem undSh : Tryz.prog.underlying 98 = some (.slice 101) := by kernel_rfl
theorem szSh : (Tryz.prog.info? 101).map (·.size) = some 3 := by kernel_rfl
theorem aggSh : aggB Tryz.prog 101 = true := by kernel_rfl
theorem infSh : (Tryz.prog.info? 101).map (fun i => (i.zero, i.size, i.bytes)) = some (some (.agg (shF sh0).toArray), 3, 56) := by kernel_rfl
theorem h0f : fofs Tryz.prog 101 0 = some (0, 1) := by kernel_rfl
theorem h1f : fofs Tryz.prog 101 1 = some (1, 2) := by kernel_rfl
theorem shF_one {w : World} {s : Sh} (h : Vals w [s.2.2.1] s.2.2.2) : ∀ u ∈ shF s, u.oneCell' = true := by
  intro u hu
  simp only [shF, List.mem_cons, List.not_mem_nil, or_false] at hu
  rcases hu with rfl | rfl | rfl
  · rfl
  · rfl
  · exact sliceOf' h
/-- An element put into a sorted list at its place: sorted still. -/
theorem ins_sorted {L : List Sh} {j : Nat} {x : Sh} (hj : j ≤ L.length) (hs : L.Pairwise fun a b => ¬ b.1 < a.1) (hA : ∀ (h : 0 < j), ¬ x.1 < (L[j - 1]'(by omega)).1) (hB : ∀ y ∈ L.drop j, x.1 < y.1) : (L.take j ++ x :: L.drop j).Pairwise fun a b => ¬ b.1 < a.1 := by
  have hs' := hs
  rw [← List.take_append_drop j L, List.pairwise_append] at hs
  obtain ⟨h1, h2, h3⟩ := hs
  refine List.pairwise_append.2 ⟨h1, List.pairwise_cons.2 ⟨fun y hy => lt_asy (hB y hy), h2⟩, fun a ha b hb => ?_⟩
  rcases List.mem_cons.1 hb with rfl | hb
  · obtain ⟨i, hi, rfl⟩ := List.getElem_of_mem ha
    rw [List.length_take] at hi
    rw [List.getElem_take]
    have hp := hA (by omega)
    by_cases e : i = j - 1
    · subst e; exact hp
    · have h5 := (List.pairwise_iff_getElem.1 hs') i (j - 1) (by omega) (by omega) (by omega)
      intro hlt
      rcases lt_tri L[i].1 (L[j - 1]'(by omega)).1 with h | h | h
      · exact hp (lt_tr hlt h)
      · exact hp (h ▸ hlt)
      · exact h5 h
  · exact h3 a ha b hb
set_option maxHeartbeats 4000000 in
theorem Area56 {ht : Nat} {c : Nat → Nat} {w : World} {g : Nat} {vR vX : Value} {M : List Mm} {F : List Fm} (h : RfAt ht c w g vR vX M F) (hR : ∀ p ∈ M.map mkr, (1 ≤ p.1.length ∧ p.1.length ≤ 16) ∧ recE p.2 = 0) (hn : M.length ≤ 100000)
    (id : Int) (hid : 1 ≤ id ∧ id ≤ 6) (vf vl vh : Value) (fs : List Int) (low high : List ValT) (hf : Rd w vf (iV fs)) (hlo : Vals w [vl] low) (hhi : Vals w [vh] high) :
    CallP Tryz.prog 56 #[.pointer (some ⟨g, 0, none⟩), .agg #[.int .i64 id, vf], vl, vh] (fun r w' => ∃ L : List Sh, OwnL shF 3 101 w w' r L ∧ L.map shE = areaV (M.map mkr) id fs low high ∧ ∀ s ∈ L, s.2 ∈ M) w := by
  have hok : ∀ p ∈ M.map mkr, ∀ x ∈ p.2, valOk x := fun p hp => by
    obtain ⟨m, hm, rfl⟩ := List.mem_map.1 hp
    exact vals_ok (h.row.ms m hm).rd
  obtain ⟨Al, cl, rfl, _⟩ := hlo.slice
  obtain ⟨Ah, ch, rfl, _⟩ := hhi.slice
  refine ⟨S56.calls _ _ _ _ _ _ ?_⟩
  unfold S56
  refine bxB ?_
  intro g1 w1 hg1 hB1 hb1
  have h1 := h.below hb1
  obtain ⟨A, cR, hv, hc, hm⟩ := h1.row.row.slice
  simp only [maxLen] at hm
  refine LoopP.inv2 (fun ov iv w' => ∃ (i : Nat) (L : List Sh), i ≤ M.length ∧ iv = .int .i64 i ∧ OwnL shF 3 101 w1 w' ov L ∧ (L.map shE).Perm (((M.take i).map mkr).filterMap (entOf id fs low high)) ∧ (L.Pairwise fun a b => ¬ b.1 < a.1) ∧ (∀ s ∈ L, s.2 ∈ M) ∧ L.length ≤ i) (fun _ iv _ => M.length - (intOf iv).toNat) ⟨0, [], by omega, rfl, OwnL.nil (Below.refl _ _), by simp, by simp, by simp, by simp⟩ ?_
  rintro ov _ w2 ⟨i, L, hi, rfl, ho, hpL, hsL, hmL, hLi⟩ J hJ
  dsimp only [List.headD_cons, List.tail_cons]
  have hb2 := ho.bel
  have h2 := h1.below hb2
  have hb02 := below_then hb1 hb2
  have q0 : ∀ w', Below w2.heap.size w2 w' → w'.cell? ⟨g, 0, none⟩ = some (.slice A M.length cR) := fun w' hb => by rw [← hv]; exact (h2.blk.below' hb).cell 0
  have hr2 := Below.refl w2.heap.size w2
  (repeat with_reducible first|refine fd s0 (by decide) ?_|refine ld oneRows (q0 _ hr2) ?_|refine z_a ?_)
  refine ln undRw ?_
  refine bi_lss_c (fun hlt => ?_) (fun hlt => ?_)
  rotate_left
  · have : i = M.length := by omega
    subst this
    rw [List.take_length] at hpL
    (repeat with_reducible first|refine z_c ?_)
    refine ⟨L, ho.old hb1, ?_, hmL⟩
    exact areaV_eq hok hpL (List.pairwise_map.2 hsL)
  have hi' : i < M.length := by omega
  have hdr : Below w2.heap.size w2 w2.drew := (Below.refl _ _).drew
  have hB2 := hB1.below' hb2
  obtain ⟨gx, cx, he, hcell⟩ := rowAt mmF_len h2.row.row i hi' (by decide)
  rw [hv] at he
  cases he
  have a0 := keepR hcell 0 _ rfl
  have a1 := keepR hcell 1 _ rfl
  have hmm := h2.row.ms _ (List.getElem_mem hi')
  have hpr := hR (mkr M[i]) (List.mem_map.2 ⟨_, List.getElem_mem hi', rfl⟩)
  have htk : ((M.take (i + 1)).map mkr).filterMap (entOf id fs low high) = ((M.take i).map mkr).filterMap (entOf id fs low high) ++ (entOf id fs low high (mkr M[i])).toList := by
    rw [List.take_succ_eq_append_getElem hi', List.map_append, List.filterMap_append]
    simp only [List.map_cons, List.map_nil, List.filterMap_cons, List.filterMap_nil]
    cases entOf id fs low high (mkr M[i]) <;> rfl
  refine CondP.yes rfl ?_
  refine JoinP.cut (fun vs w' => ∃ v L', vs = [v] ∧ OwnL shF 3 101 w1 w' v L' ∧ (L'.map shE).Perm (((M.take (i + 1)).map mkr).filterMap (entOf id fs low high)) ∧ (L'.Pairwise fun a b => ¬ b.1 < a.1) ∧ (∀ s ∈ L', s.2 ∈ M) ∧ L'.length ≤ i + 1) ?_ ?_
  rotate_left
  · rintro _ w3 ⟨v, L', rfl, ho', hp', hs', hm', hl'⟩
    dsimp only [List.headD_cons, List.tail_cons]
    (repeat with_reducible first|refine z_o (by omega) ?_)
    exact hJ _ _ _ ⟨i + 1, L', by omega, by simp, ho', hp', hs', hm', hl'⟩ (by simp [intOf]; omega)
  intro J1 hJ1
  have skip : entOf id fs low high (mkr M[i]) = none → ∀ w', Below w2.heap.size w2 w' → J1 [ov] w' := fun hno w' hb => hJ1 _ _ ⟨ov, L, rfl, ho.kept hb, by rw [htk, hno, Option.toList_none, List.append_nil]; exact hpL, hsL, hmL, by omega⟩
  refine draw (Below w2.heap.size w2) hdr ?_
  refine yldA aggIx (fun w' hb => hB2.below' hb) (by exact szIx) ?_
  (repeat with_reducible first|refine yfd s0 (by decide) ?_|refine yl1 oneRows q0 ?_|refine z_W ?_)
  refine yixG undRw szRw i hi' ?_
  (repeat with_reducible first|refine yfdG fRow1 (by decide) ?_|refine yl1 oneRec a1 ?_)
  refine act ?_
  refine (Shows22 id vf fs M[i].2.1 M[i].2.2 w2.drew (hf.below (below_then hb02 hdr)) (keeps_Vals _ _ _ _ hdr hmm.rd)).mono ?_
  intro r w3 hsr
  have hb23 := below_then hdr hsr.bel
  refine ⟨_, hb23, fun _ h => h, ?_⟩
  cases hsv : showV id fs M[i].2.2 with
  | none =>
    rw [hsr.no hsv]
    (repeat with_reducible first|refine z_l1 ?_|refine z_m1 ?_)
    (repeat with_reducible first|refine z_b ?_|refine z_f ?_|refine z_k ?_|refine z_F ?_)
    try simp only [Bool.not_false]
    skip
    exact skip (by unfold entOf mkr; rw [hsv]) _ hb23
  | some key =>
  obtain ⟨⟨vk, rfl, hokk⟩, hvok⟩ := hsr.yes key hsv
  have hkey := showV_ok (vals_ok hmm.rd) hsv
  (repeat with_reducible first|refine z_l1 ?_|refine z_m1 ?_)
  (repeat with_reducible first|refine z_d ?_|refine z_E ?_)
  try simp only [Bool.not_true]
  skip
  have hb03 := below_then hb02 hb23
  refine (Lies23 vk _ _ key low high w3 (hokk.vals hvok) (keeps_Vals _ _ _ _ hb03 hlo) (keeps_Vals _ _ _ _ hb03 hhi)).mono ?_
  rintro _ w4 ⟨rfl, hb4⟩
  have hb24 := below_then hb23 hb4
  (repeat with_reducible first|refine z_d ?_|refine z_l ?_|refine z_G ?_)
  cases hlv : liesV key low high with
  | false =>
    try simp only [Bool.not_false]
    (repeat with_reducible first|refine z_b ?_)
    refine skip ?_ _ hb24
    unfold entOf mkr
    rw [hsv]
    simp only [hlv]
    rfl
  | true =>
  have hent : entOf id fs low high (mkr M[i]) = some (entT id key M[i].1, M[i].1) := by
    unfold entOf mkr
    rw [hsv]
    simp only [hlv]
    rfl
  try simp only [Bool.not_true]
  (repeat with_reducible first|refine z_c ?_)
  have hdr4 : Below w4.heap.size w4 w4.drew := (Below.refl _ _).drew
  have q0' : ∀ w', Below w4.heap.size w4 w' → w'.cell? ⟨g, 0, none⟩ = some (.slice (some ⟨gx, 0, none⟩) M.length cR) := fun w' hb => q0 w' (below_then hb24 hb)
  have a0' : ∀ w', Below w4.heap.size w4 w' → w'.cell? ⟨gx, i * 2 + 0, none⟩ = some (tS M[i].1) := fun w' hb => a0 w' (below_then hb24 hb)
  have i0 : ∀ w', Below w4.heap.size w4 w' → w'.cell? ⟨g1, 0, none⟩ = some (.int .i64 id) := fun w' hb => ((hB2.below' hb24).below' hb).cell 0
  refine draw (Below w4.heap.size w4) hdr4 ?_
  (repeat with_reducible first|refine yfd x0 (by decide) ?_|refine yl1 one3 i0 ?_|refine yfd s0 (by decide) ?_|refine yl1 oneRows q0' ?_|refine z_W ?_)
  refine yixG undRw szRw i hi' ?_
  (repeat with_reducible first|refine yfdG w0 (by decide) ?_|refine yl1 one9 a0' ?_)
  refine act ?_
  have hb34d := below_then hb4 hdr4
  refine (Entry76 id vk key M[i].1 w4.drew hid ((hokk.kept hb34d).vals hvok) hkey.1 hpr.1).mono ?_
  rintro _ w5 ⟨rfl, hb5⟩
  have hb45 := below_then hdr4 hb5
  refine ⟨_, hb45, fun _ h => h, ?_⟩
  have hb25 := below_then hb24 hb45
  have ho5 := ho.kept hb25
  obtain ⟨Ao, co, rfl, _⟩ := ho.slice
  (repeat with_reducible first|refine z_l1 ?_|refine z_m1 ?_)
  refine ln undSh ?_
  refine bd (cells := (shF sh0).toArray) (by kernel_rfl) ?_
  refine apOne (us := shF sh0) undSh infSh (by rfl) (by decide) ho5.own rfl (fun u hu => by
    simp only [shF, sh0, List.mem_cons, List.not_mem_nil, or_false] at hu
    rcases hu with rfl | rfl | rfl <;> rfl) (by omega) (by omega) (by kernel_rfl) ?_
  intro v6 w6 ho6 hbl6 hT6
  have hf6 : Fresh w1.heap.size v6 := ho.fresh.one ho5.bel.size hbl6
  have hb16 : Below w1.heap.size w1 w6 := ho5.bel.trans (hT6.fresh ho.fresh ho5.bel.size)
  obtain ⟨A6, c6, hv6, _⟩ := (OwnR.of_own ho6).slice
  obtain ⟨g6, rfl⟩ : ∃ g6, v6 = .slice (some ⟨g6, 0, none⟩) (L.length + 1) c6 := by
    rcases ho6.2 with ⟨_, e⟩ | ⟨g9, c9, cur9, e, _⟩
    · omega
    · rw [hv6] at e
      cases e
      exact ⟨g9, hv6⟩
  cases hv6
  have hg6 : w1.heap.size ≤ g6 := hf6 g6 rfl
  have eq0 : L.flatMap shF ++ shF sh0 = (L.take L.length ++ sh0 :: L.drop L.length).flatMap shF := by
    rw [List.take_length, List.drop_length]; simp
  rw [eq0] at ho6
  have hm1 : ∀ s ∈ L, ∀ w', Below w1.heap.size w1 w' → ∀ u ∈ shF s, u.oneCell' = true := fun s hs w' _ => shF_one (h1.row.ms _ (hmL s hs)).rd
  -- the place
  refine LoopP.inv1 (fun kv w' => ∃ (k : Nat) (z : Sh), k ≤ L.length ∧ kv = .int .i64 k ∧ w'.ownsRow 0 101 3 (.slice (some ⟨g6, 0, none⟩) (L.length + 1) c6) (L.length + 1) ((L.take k ++ z :: L.drop k).flatMap shF) ∧ (∀ y ∈ L.drop k, entT id key M[i].1 < y.1) ∧ Below w1.heap.size w1 w') (fun kv _ => (intOf kv).toNat) ⟨L.length, sh0, by omega, rfl, ho6, by simp, hb16⟩ ?_
  rintro _ w7 ⟨k, z, hk, rfl, ho7, hB7, hb17⟩ J2 hJ2
  dsimp only [List.headD_cons, List.tail_cons]
  have hQl : (L.take k ++ z :: L.drop k).length = L.length + 1 := by simp; omega
  have h7 := h1.below hb17
  have q7 : w7.cell? ⟨g, 0, none⟩ = some (.slice (some ⟨gx, 0, none⟩) M.length cR) := by rw [← hv]; exact h7.blk.cell 0
  obtain ⟨gy, cy, hey, hcy⟩ := rowAt mmF_len h7.row.row i hi' (by decide)
  rw [hv] at hey
  cases hey
  -- the element's place is found
  have fin : (∀ (h : 0 < k), ¬ entT id key M[i].1 < (L[k - 1]'(by omega)).1) → ∀ w8, w8.ownsRow 0 101 3 (.slice (some ⟨g6, 0, none⟩) (L.length + 1) c6) (L.length + 1) (((L.take k ++ z :: L.drop k).flatMap shF).take (k * 3) ++ (shF (entT id key M[i].1, M[i])).toArray.toList ++ ((L.take k ++ z :: L.drop k).flatMap shF).drop (k * 3 + 3)) → Turns (fun j => j = g6) w7 w8 → J1 [.slice (some ⟨g6, 0, none⟩) (L.length + 1) c6] w8 := fun hA w8 ho8 hT8 => by
    have e8 : ((L.take k ++ z :: L.drop k).flatMap shF).take (k * 3) ++ (shF (entT id key M[i].1, M[i])).toArray.toList ++ ((L.take k ++ z :: L.drop k).flatMap shF).drop (k * 3 + 3) = (L.take k ++ (entT id key M[i].1, M[i]) :: L.drop k).flatMap shF := by
      rw [List.toList_toArray, flatMap_put shF 3 shF_len _ _ k (by omega), List.set_append_right _ _ (by rw [List.length_take]; omega), show k - (L.take k).length = 0 by rw [List.length_take]; omega, List.set_cons_zero]
    rw [e8] at ho8
    have hlen9 : (L.take k ++ (entT id key M[i].1, M[i]) :: L.drop k).length = L.length + 1 := by simp; omega
    refine hJ1 _ _ ⟨_, L.take k ++ (entT id key M[i].1, M[i]) :: L.drop k, rfl, ⟨by rw [hlen9]; exact ho8, fun j hj => by cases hj; exact hg6, below_own hb17 hT8 hg6⟩, ?_, ins_sorted hk hsL hA hB7, fun s hs => ?_, by rw [hlen9]; omega⟩
    · rw [htk, hent, List.map_append, List.map_cons]
      refine (List.perm_middle).trans ?_
      rw [← List.map_append, List.take_append_drop]
      show (shE (entT id key M[i].1, M[i]) :: L.map shE).Perm (_ ++ [(entT id key M[i].1, M[i].1)])
      refine (List.perm_append_comm (l₁ := [shE (entT id key M[i].1, M[i])])).trans ?_
      exact hpL.append_right _
    · rcases List.mem_append.1 hs with hs | hs
      · exact hmL s (List.mem_of_mem_take hs)
      · rcases List.mem_cons.1 hs with rfl | hs
        · exact List.getElem_mem hi'
        · exact hmL s (List.mem_of_mem_drop hs)
  by_cases hpos : 0 < k
  rotate_left
  · have hA : ∀ (h : 0 < k), ¬ entT id key M[i].1 < (L[k - 1]'(by omega)).1 := fun h => absurd h hpos
    refine bi_gtr_f (by omega) ?_
    (repeat with_reducible first|refine fd s0 (by decide) ?_|refine ld oneRows q7 ?_|refine z_a ?_|refine z_c ?_|refine z_e ?_|refine z_l ?_)
    refine ixG undRw szRw i hi' ?_
    refine ldR (us := mmF M[i]) aggRw (fun j u hu => by rw [add0]; exact hcy j u hu) (by rw [szRw]; rfl) ?_
    refine bd (cells := (shF (entT id key M[i].1, M[i])).toArray) (by kernel_rfl) ?_
    refine ixG undSh szSh k (by omega) ?_
    refine stO ho7 k (by omega) rfl szSh (allOne (l := shF (entT id key M[i].1, M[i])) (by
      have := shF_one (s := (entT id key M[i].1, M[i])) hmm.rd
      rw [List.all_eq_true]; exact this)) ?_
    intro w8 ho8 hT8
    exact fin hA w8 ho8 hT8
  have hk1 : k - 1 < L.length := by omega
  have hQ1 : (L.take k ++ z :: L.drop k)[k - 1]'(by omega) = L[k - 1] := by
    rw [List.getElem_append_left (by rw [List.length_take]; omega), List.getElem_take]
  rw [← hQl] at ho7
  obtain ⟨gz, cz, hez, hcz⟩ := rowAt shF_len (OwnR.of_own ho7) (k - 1) (by omega) (by decide)
  rw [hQl] at hez ho7
  cases hez
  rw [hQ1] at hcz
  refine bi_gtr_t (by omega) ?_
  (repeat with_reducible first|refine z_d ?_|refine z_p (by omega) ?_)
  rw [show (k : Int) - 1 = ((k - 1 : Nat) : Int) by omega]
  refine ixG undSh szSh (k - 1) (by omega) ?_
  (repeat with_reducible first|refine fdG h0f (by decide) ?_|refine z_d ?_)
  refine ld one9 (hcz 0 _ rfl) ?_
  (repeat with_reducible first|refine z_d ?_)
  refine tl_gtr_c (fun hgt => ?_) (fun hgt => ?_)
  rotate_left
  · have hA : ∀ (h : 0 < k), ¬ entT id key M[i].1 < (L[k - 1]'(by omega)).1 := fun _ => hgt
    (repeat with_reducible first|refine fd s0 (by decide) ?_|refine ld oneRows q7 ?_|refine z_a ?_|refine z_c ?_|refine z_k ?_)
    refine ixG undRw szRw i hi' ?_
    refine ldR (us := mmF M[i]) aggRw (fun j u hu => by rw [add0]; exact hcy j u hu) (by rw [szRw]; rfl) ?_
    refine bd (cells := (shF (entT id key M[i].1, M[i])).toArray) (by kernel_rfl) ?_
    refine ixG undSh szSh k (by omega) ?_
    refine stO ho7 k (by omega) rfl szSh (allOne (l := shF (entT id key M[i].1, M[i])) (by
      have := shF_one (s := (entT id key M[i].1, M[i])) hmm.rd
      rw [List.all_eq_true]; exact this)) ?_
    intro w8 ho8 hT8
    exact fin hA w8 ho8 hT8
  (repeat with_reducible first|refine z_b ?_|refine z_k ?_|refine z_p (by omega) ?_)
  rw [show (k : Int) - 1 = ((k - 1 : Nat) : Int) by omega]
  refine ixG undSh szSh (k - 1) (by omega) ?_
  refine ldR (us := shF L[k - 1]) aggSh (fun j u hu => by rw [add0]; exact hcz j u hu) (by rw [szSh]; rfl) ?_
  refine ixG undSh szSh k (by omega) ?_
  refine stO ho7 k (by omega) rfl szSh (allOne (l := shF L[k - 1]) (by
    rw [List.all_eq_true]; exact hm1 _ (List.getElem_mem hk1) _ hb17)) ?_
  intro w8 ho8 hT8
  have e8 : ((L.take k ++ z :: L.drop k).flatMap shF).take (k * 3) ++ (shF L[k - 1]).toArray.toList ++ ((L.take k ++ z :: L.drop k).flatMap shF).drop (k * 3 + 3) = (L.take (k - 1) ++ L[k - 1] :: L.drop (k - 1)).flatMap shF := by
    rw [List.toList_toArray, flatMap_put shF 3 shF_len _ _ k (by omega), List.set_append_right _ _ (by rw [List.length_take]; omega), show k - (L.take k).length = 0 by rw [List.length_take]; omega, List.set_cons_zero]
    congr 1
    have e1 : L.take k = L.take (k - 1) ++ [L[k - 1]] := by
      have := List.take_succ_eq_append_getElem hk1
      rwa [show k - 1 + 1 = k by omega] at this
    have e2 : L.drop (k - 1) = L[k - 1] :: L.drop k := by
      have := List.drop_eq_getElem_cons hk1
      rwa [show k - 1 + 1 = k by omega] at this
    rw [e1, e2, List.append_assoc]
    rfl
  rw [e8] at ho8
  (repeat with_reducible first|refine z_p (by omega) ?_)
  refine hJ2 _ _ ⟨k - 1, L[k - 1], by omega, by first | rfl | (congr 1; omega), ho8, fun y hy => ?_, below_own hb17 hT8 hg6⟩ (by simp [intOf]; omega)
  rw [List.drop_eq_getElem_cons hk1, show k - 1 + 1 = k by omega] at hy
  rcases List.mem_cons.1 hy with rfl | hy
  · exact hgt
  · exact hB7 y hy
end Go.Proofs.YtonblppkidpmlaaGreatDoor.E
namespace Go.Proofs.YtonblppkidpmlaaGreatDoor.E
open Go Go.RowKit
set_option linter.unusedSimpArgs false
set_option linter.unusedVariables false

theorem OwnTx.rd {w0 w : World} {v : Value} {ks : List Txt} (h : OwnTx w0 w v ks) : Rd w v (ks.map tS) := h.own.rd
theorem StOk.rows {n : Nat} {S : StT} (h : StOk n S) {M : List Mm} (hM : M.map mkr = S.R) : ∀ p ∈ M.map mkr, (1 ≤ p.1.length ∧ p.1.length ≤ 16) ∧ recE p.2 = 0 := fun p hp => by
  rw [hM] at hp
  exact ⟨h.keys p hp, (h.recs p hp).1⟩
theorem Shown28 {ht : Nat} {c : Nat → Nat} {w : World} {g n : Nat} {S : StT} (hS : RfS ht c w g S) (hok : StOk n S) (hn : n ≤ 100000) (id : Int) (hid : -9223372036854775808 ≤ id ∧ id ≤ 9223372036854775807) :
    CallP Tryz.prog 28 #[.pointer (some ⟨g, 0, none⟩), .int .i64 id] (fun r w' => Rd w' r ((shownV S id).map tS) ∧ Below w.heap.size w w') w := by
  obtain ⟨vR, vX, M, F, h, hM, hF⟩ := hS
  have hMl : M.length = S.R.length := by rw [← hM, List.length_map]
  have hmany := hok.many
  refine ⟨S28.calls _ _ _ _ ?_⟩
  unfold S28
  refine (Index55 h hF hok.xmany id hid).mono ?_
  rintro _ w1 ⟨hb1, ⟨hno, rfl⟩ | ⟨f, hf, hfo, hi1, hi2, hone, rfl⟩⟩
  · (repeat with_reducible first|refine z_A ?_|refine z_B ?_)
    refine cpB zIx (cells := #[.int .i64 0, .slice none 0 0]) (by exact szIx) (by rfl) (allOne (l := [.int .i64 0, .slice none 0 0]) rfl) ?_
    intro g5 w2 hg5 hI hb2
    (repeat with_reducible first|refine z_b ?_|refine z_F ?_)
    try simp only [Bool.not_false]
    skip
    have : shownV S id = [] := by unfold shownV; rw [hno]
    rw [this]
    exact ⟨⟨none, 0, rfl, Nat.le_refl _, by decide, fun i u h => by simp at h⟩, below_then hb1 hb2⟩
  (repeat with_reducible first|refine z_A ?_|refine z_B ?_)
  refine cpB zIx (cells := #[.int .i64 id, f.1]) (by exact szIx) (by rfl) (allOne (l := [.int .i64 id, f.1]) (by simp only [List.all_cons, hone]; rfl)) ?_
  intro g5 w2 hg5 hI hb2
  have hb02 := below_then hb1 hb2
  have h2 := h.below hb02
  (repeat with_reducible first|refine z_c ?_|refine z_E ?_)
  try simp only [Bool.not_true]
  skip
  refine ldA aggIx hI (by exact szIx) ?_
  refine (Area56 h2 (hok.rows hM) (by omega) id ⟨hi1, hi2⟩ f.1 _ _ f.2 [] [] (h2.xm f hf).rd (vals_nil _) (vals_nil _)).mono ?_
  rintro r w3 ⟨L, hO, hL, _⟩
  have hsh : shownV S id = L.map (·.1) := by
    unfold shownV
    rw [hfo]
    simp only
    rw [← hM, ← hL, List.map_map]
    rfl
  have hlen : L.length ≤ 100000 := by
    have e1 := congrArg List.length hL
    rw [List.length_map, (areaV_perm _ _ _ _ _).length_eq] at e1
    have := List.length_filterMap_le (entOf id f.2 [] []) (M.map mkr)
    rw [List.length_map] at this
    omega
  obtain ⟨A, cc, rfl, _⟩ := hO.slice
  refine LoopP.inv2 (fun rv iv w' => ∃ i : Nat, i ≤ L.length ∧ iv = .int .i64 i ∧ OwnTx w3 w' rv ((L.take i).map (·.1))) (fun _ iv _ => L.length - (intOf iv).toNat) ⟨0, by omega, rfl, OwnTx.nil (Below.refl _ _)⟩ ?_
  rintro rv _ w4 ⟨i, hi, rfl, ho⟩ J1 hJ1
  dsimp only [List.headD_cons, List.tail_cons]
  refine ln undSh ?_
  refine bi_lss_c (fun h1 => ?_) (fun h1 => ?_)
  · have hi' : i < L.length := by omega
    obtain ⟨ge, ce, he, hcell⟩ := rowAt shF_len (OwnR.of_own (hO.kept ho.bel).own) i hi' (by decide)
    cases he
    (repeat with_reducible first|refine z_b ?_)
    refine ixG undSh szSh i hi' ?_
    (repeat with_reducible first|refine fdG h0f (by decide) ?_)
    refine ld one9 (hcell 0 _ rfl) ?_
    refine ho.push (by simp; omega) L[i].1 ?_
    intro v6 w6 ho6
    (repeat with_reducible first|refine z_o (by omega) ?_)
    refine hJ1 _ _ _ ⟨i + 1, by omega, by simp, ?_⟩ (by simp [intOf]; omega)
    rw [List.take_succ_eq_append_getElem hi', List.map_append]
    exact ho6
  · have : i = L.length := by omega
    subst this
    rw [List.take_length] at ho
    (repeat with_reducible first|refine z_c ?_)
    rw [hsh]
    exact ⟨ho.rd, below_then hb02 (below_then hO.bel ho.bel)⟩
theorem SameTexts26 (v v' : Value) (l : List Txt) (w : World) (hv : Rd w v (l.map tS)) (hv' : Rd w v' (l.map tS)) :
    CallP Tryz.prog 26 #[v, v'] (fun r w' => r = .bool true ∧ Below w.heap.size w w') w := by
  obtain ⟨A, c, rfl, hc, hm⟩ := hv.slice
  obtain ⟨A', c', rfl, hc', hm'⟩ := hv'.slice
  have hlen : (l.map tS).length = l.length := List.length_map _
  rw [hlen] at hv hv' hc hc' ⊢
  refine ⟨S26.calls _ _ _ _ ?_⟩
  unfold S26
  refine ln undTx ?_
  refine ln undTx ?_
  (repeat with_reducible first|refine z_c ?_|refine z_t (by omega) ?_)
  refine LoopP.inv1 (fun iv w' => ∃ k : Nat, k ≤ l.length ∧ iv = .int .i64 k ∧ Below w.heap.size w w') (fun iv _ => l.length - (intOf iv).toNat) ⟨0, by omega, rfl, Below.refl _ _⟩ ?_
  rintro _ w1 ⟨k, hk, rfl, hb1⟩ J hJ
  dsimp only [List.headD_cons, List.tail_cons]
  refine ln undTx ?_
  refine bi_lss_c (fun h => ?_) (fun h => ?_)
  · have hk' : k < l.length := by omega
    have hkm : k < (l.map tS).length := by rw [hlen]; exact hk'
    obtain ⟨p, rfl, hp⟩ := (hv.below hb1).at k hkm
    obtain ⟨q, rfl, hq⟩ := (hv'.below hb1).at k hkm
    rw [List.getElem_map] at hp hq
    have hdr : Below w1.heap.size w1 w1.drew := (Below.refl _ _).drew
    (repeat with_reducible first|refine z_b ?_)
    refine draw (Below w1.heap.size w1) hdr ?_
    refine yix1 undTx sz9 k hk' ?_
    (repeat with_reducible first|refine yl1 one9 (RdKeep hp) ?_)
    refine yix1 undTx sz9 k hk' ?_
    (repeat with_reducible first|refine yl1 one9 (RdKeep hq) ?_)
    refine ty_neq_f (by simp) ?_
    (repeat with_reducible first|refine z_c ?_)
    (repeat with_reducible first|refine z_o (by omega) ?_)
    exact hJ _ _ ⟨k + 1, by omega, by simp, below_then hb1 hdr⟩ (by simp [intOf]; omega)
  · (repeat with_reducible first|refine z_c ?_)
    exact ⟨by first | rfl | trivial, hb1⟩
theorem Indexes30 {ht : Nat} {c : Nat → Nat} {w : World} {g n : Nat} {S : StT} (hS : RfS ht c w g S) (hok : StOk n S) :
    CallP Tryz.prog 30 #[.pointer (some ⟨g, 0, none⟩)] (fun r w' => ∃ L : List Xm, L.map xmP = idxV 0 S.X ∧ IxAt w' r L ∧ Below w.heap.size w w') w := by
  obtain ⟨vR, vX, M, F, h, hM, hF⟩ := hS
  have hFl : F.length = S.X.length := by rw [← hF, List.length_map]
  have hx6 := hok.xmany
  obtain ⟨A, cX, hvX, _⟩ := (OwnR.of_own h.xs).slice
  refine ⟨S30.calls _ _ _ ?_⟩
  unfold S30
  refine LoopP.inv2 (fun ov iv w' => ∃ (i : Nat) (L : List Xm), i ≤ F.length ∧ iv = .int .i64 i ∧ L.map xmP = idxV 0 (S.X.take i) ∧ OwnL xmF 2 53 w w' ov L ∧ (∀ x ∈ L, Rd w x.fv (iV x.fs)) ∧ L.length ≤ i) (fun _ iv _ => F.length - (intOf iv).toNat) ⟨0, [], by omega, rfl, by simp [idxV], OwnL.nil (Below.refl _ _), by simp, by simp⟩ ?_
  rintro ov _ w1 ⟨i, L, hi, rfl, hL, ho, hms, hLi⟩ J hJ
  dsimp only [List.headD_cons, List.tail_cons]
  have hb1 := ho.bel
  have h1 := h.below hb1
  have c1 : w1.cell? ⟨g, 1, none⟩ = some (.slice A F.length cX) := by rw [← hvX]; exact h1.blk.cell 1
  (repeat with_reducible first|refine fd s1 (by decide) ?_|refine ld oneII c1 ?_|refine z_a ?_)
  refine ln undII ?_
  refine bi_lss_c (fun h2 => ?_) (fun h2 => ?_)
  rotate_left
  · have : i = F.length := by omega
    subst this
    rw [hFl, List.take_length] at hL
    (repeat with_reducible first|refine z_c ?_)
    exact ⟨L, hL, ⟨OwnR.of_own ho.own, fun x hx => (hms x hx).below hb1⟩, hb1⟩
  have hi' : i < F.length := by omega
  have hSx : i < S.X.length := by omega
  have hSe : S.X[i] = F[i].2 := by
    have : (F.map (·.2))[i]? = S.X[i]? := by rw [hF]
    rw [List.getElem?_map, List.getElem?_eq_getElem hi', List.getElem?_eq_getElem hSx] at this
    exact (Option.some.inj this).symm
  have hstep := idxV_take 0 S.X i hSx
  rw [hSe, Nat.zero_add] at hstep
  have hfo : fieldsOf S.X ((i : Int) + 1) = if F[i].2.length = 0 then none else some F[i].2 := by
    unfold fieldsOf
    rw [if_pos ⟨by omega, by omega⟩, show ((i : Int) + 1 - 1).toNat = i by omega, List.getElem?_eq_getElem hSx, hSe]
  refine CondP.yes rfl ?_
  refine JoinP.cut (fun vs w' => ∃ v L', vs = [v] ∧ L'.map xmP = idxV 0 (S.X.take (i + 1)) ∧ OwnL xmF 2 53 w w' v L' ∧ (∀ x ∈ L', Rd w x.fv (iV x.fs)) ∧ L'.length ≤ i + 1) ?_ ?_
  rotate_left
  · rintro _ w2 ⟨v, L', rfl, hL', ho', hms', hl'⟩
    dsimp only [List.headD_cons, List.tail_cons]
    (repeat with_reducible first|refine z_o (by omega) ?_)
    exact hJ _ _ _ ⟨i + 1, L', by omega, by simp, hL', ho', hms', hl'⟩ (by simp [intOf]; omega)
  intro J1 hJ1
  (repeat with_reducible first|refine z_o (by omega) ?_)
  refine (Index55 h1 hF hok.xmany ((i : Int) + 1) (by omega)).mono ?_
  rintro _ w2 ⟨hb2, ⟨hno, rfl⟩ | ⟨f, hf, hfo', hi1, hi2, hone, rfl⟩⟩
  · (repeat with_reducible first|refine z_A ?_|refine z_B ?_)
    refine cpB zIx (cells := #[.int .i64 0, .slice none 0 0]) (by exact szIx) (by rfl) (allOne (l := [.int .i64 0, .slice none 0 0]) rfl) ?_
    intro g5 w3 hg5 hI hb3
    (repeat with_reducible first|refine z_c ?_)
    refine hJ1 _ _ ⟨ov, L, rfl, ?_, ho.kept (below_then hb2 hb3), hms, by omega⟩
    rw [hno] at hfo
    split at hfo
    · rename_i h0
      rw [hL, hstep, if_pos h0, List.append_nil]
    · cases hfo
  · rw [hfo'] at hfo
    split at hfo
    · cases hfo
    rename_i h0
    have hfe : f.2 = F[i].2 := Option.some.inj hfo
    (repeat with_reducible first|refine z_A ?_|refine z_B ?_)
    refine cpB zIx (cells := #[.int .i64 ((i : Int) + 1), f.1]) (by exact szIx) (by rfl) (allOne (l := [.int .i64 ((i : Int) + 1), f.1]) (by simp only [List.all_cons, hone]; rfl)) ?_
    intro g5 w3 hg5 hI hb3
    (repeat with_reducible first|refine z_b ?_)
    refine ldA aggIx hI (by exact szIx) ?_
    have ho3 := ho.kept (below_then hb2 hb3)
    obtain ⟨Af, cf, hfv, _⟩ := (h1.xm f hf).rd.slice
    refine apOne (us := xmF ⟨(i : Int) + 1, f.1, f.2⟩) undSt infIx (by rfl) (by decide) ho3.own rfl (fun u hu => by
      simp only [xmF, List.mem_cons, List.not_mem_nil, or_false] at hu
      rcases hu with rfl | rfl
      · rfl
      · exact hone) (by omega) (by omega) (by rw [hfv]; kernel_rfl) ?_
    intro v4 w4 ho4 hbl4 hT4
    have e4 : (L ++ [(⟨(i : Int) + 1, f.1, f.2⟩ : Xm)]).flatMap xmF = L.flatMap xmF ++ xmF ⟨(i : Int) + 1, f.1, f.2⟩ := by simp
    refine hJ1 _ _ ⟨v4, L ++ [⟨(i : Int) + 1, f.1, f.2⟩], rfl, ?_, ⟨by rw [e4, List.length_append]; exact ho4, ho.fresh.one ho3.bel.size hbl4, ho3.bel.trans (hT4.fresh ho.fresh ho3.bel.size)⟩, fun x hx => ?_, by rw [List.length_append]; simp; omega⟩
    · rw [List.map_append, hL, hstep, if_neg h0]
      simp [xmP, hfe]
    · rcases List.mem_append.1 hx with hx | hx
      · exact hms x hx
      · simp only [List.mem_cons, List.not_mem_nil, or_false] at hx
        subst hx
        exact (h.xm f hf).rd
end Go.Proofs.YtonblppkidpmlaaGreatDoor.E
