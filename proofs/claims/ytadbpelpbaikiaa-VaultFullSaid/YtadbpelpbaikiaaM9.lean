import Derived.Test.YtadbpelpbaikiaaM8
import Derived.Test.YtadbpelpbaikiaaM6
import Derived.Test.YtadbpelpbaikiaaM3
namespace Go.Proofs.Ytadbpelpbaikiaa.E
open Go Go.RowKit
set_option linter.unusedSimpArgs false
set_option linter.unusedVariables false

/-- How much a crash leaves of what waits. -/
def crashed (waits : List (List UInt8)) (keep torn : Int) : List UInt8 :=
  (waits.take (min (max keep 0) waits.length).toNat).flatten ++ (if (min (max keep 0) waits.length).toNat < waits.length then ((waits.getD (min (max keep 0) waits.length).toNat []).take (min (max torn 0) (((waits.getD (min (max keep 0) waits.length).toNat []).length : Int) - 1)).toNat) else [])
def Dk.crash (d : Dk) (keep torn : Int) : Dk := { d with on := false, log := d.log ++ crashed d.waits keep torn, waits := [] }
theorem Crash_spec (c : Nat → Nat) (w : World) (g : Nat) (d : Dk) (keep torn : Int) (hD : DiskC c w g d) (hs : d.small) (hne : ∀ p ∈ d.waits, 0 < p.length) :
    CallP Try.prog 12 #[.pointer (some ⟨g, 0, none⟩), .int .i64 keep, .int .i64 torn] (fun r w' => r = .tuple #[] ∧ Left c w g (if d.on then d.crash keep torn else d) w') w := by
  have hD0 := hD
  obtain ⟨s, l, q, xs, hA⟩ := hD
  have c1 : w.cell? ⟨g, 1, none⟩ = some (.bool d.on) := hA.blk.cell 1
  have c4 : w.cell? ⟨g, 4, none⟩ = some q := hA.blk.cell 4
  refine ⟨S12.calls _ _ _ _ _ ?_⟩
  unfold S12
  rcases Bool.eq_false_or_eq_true d.on with hon | hon
  all_goals rw [hon] at c1
  · obtain ⟨hs1, hs2, hs3⟩ := hs
    have hu : d.used = costL d.state + d.log.length + d.waits.flatten.length := rfl
    have hlenq := hA.len
    obtain ⟨Aq, cq, rfl, hcq, _⟩ := hA.ss.slice
    have hkn : 0 ≤ min (max keep 0) (d.waits.length : Int) ∧ min (max keep 0) (d.waits.length : Int) ≤ d.waits.length := by omega
    (repeat with_reducible first|refine fd f1 (by decide) ?_|refine ld one4 c1 ?_|refine z_a ?_|refine z_c ?_|refine z_E ?_)
    refine mxI ?_
    (repeat with_reducible first|refine fd f4 (by decide) ?_|refine ld one45 c4 ?_|refine z_a ?_)
    refine ln und45 ?_
    refine mnI ?_
    unfold Dk.crash crashed
    obtain ⟨k, hk⟩ : ∃ k : Nat, min (max keep 0) (d.waits.length : Int) = k := ⟨(min (max keep 0) (d.waits.length : Int)).toNat, by omega⟩
    rw [hk] at hkn ⊢
    rw [Int.toNat_natCast]
    (repeat with_reducible first|refine fd f4 (by decide) ?_|refine ld one45 c4 ?_|refine z_a ?_)
    refine ofPR (pr_cut und45 sz23 .no (.at _ _) .no (Nat.zero_le _) (fun h => by cases h) (by omega) (Nat.le_refl _) (.inl rfl)) ?_
    have hkl : (xs.take k).length = k := by rw [List.length_take]; omega
    obtain ⟨A1, n1, he1⟩ : ∃ A1 n1, sliced Aq 0 k cq 1 = .slice A1 k n1 := by
      have := sliced_rd hA.q1.rd (l := 0) (k := k) (m := cq) (Nat.zero_le _) (by omega) (by omega) (Nat.le_refl _)
      obtain ⟨A1, n1, h, _⟩ := this.slice
      rw [List.drop_zero, hkl] at h
      exact ⟨A1, n1, h⟩
    rw [he1]
    refine ln und45 ?_
    refine LoopP.inv1 (fun i w' => ∃ (j : Nat) (c' : Nat → Nat) (l' : Value), j ≤ k ∧ i = .int .i64 j ∧ (∀ x, x < w.heap.size → c' x = c x) ∧ DiskAt c' w' g { d with log := d.log ++ (d.waits.take j).flatten } s l' (.slice Aq d.waits.length cq) xs ∧ Turns (D c) w w')
      (fun i _ => k - (intOf i).toNat) ⟨0, c, l, by omega, rfl, fun _ _ => rfl, by simpa using hA, Turns.refl _ w⟩ ?_
    rintro _ w1 ⟨j, c', l', hj, rfl, hcc, hA1, hT1⟩ J hJ
    dsimp only [List.headD_cons, List.tail_cons]
    have hfl := Frame.flat_le d.waits j
    have c4' : w1.cell? ⟨g, 4, none⟩ = some (.slice Aq d.waits.length cq) := hA1.blk.cell 4
    (first | refine bi_lss_c (fun h => ?_) (fun h => ?_) | refine bi_eql_c (fun h => ?_) (fun h => ?_) | refine bi_neq_c (fun h => ?_) (fun h => ?_) | refine bi_gtr_c (fun h => ?_) (fun h => ?_) | refine bi_leq_c (fun h => ?_) (fun h => ?_) | refine bi_geq_c (fun h => ?_) (fun h => ?_) | refine bi_seql_c (fun h => ?_) (fun h => ?_) | refine bi_sneq_c (fun h => ?_) (fun h => ?_))
    · have hjk : j < k := by omega
      have hjl : j < d.waits.length := by omega
      have hv1' := sliced_rd hA1.q1.rd (l := 0) (k := k) (m := cq) (Nat.zero_le _) (by omega) (by omega) (Nat.le_refl _)
      rw [he1, List.drop_zero] at hv1'
      obtain ⟨a, rfl, hca⟩ := Rd.at hv1' j (by omega)
      obtain ⟨hel, hec⟩ := hA1.el j (by omega) hjl
      rw [List.getElem_take] at hca
      have c3 : w1.cell? ⟨g, 3, none⟩ = some l' := hA1.blk.cell 3
      have hft := Frame.flat_take d.waits j hjl
      have hfl1 := Frame.flat_le d.waits (j + 1)
      rw [hft, List.length_append] at hfl1
      (repeat with_reducible first|refine ix1 und45 sz23 hjk ?_|refine ld one23 hca ?_|refine fd f3 (by decide) ?_|refine ld one23 c3 ?_|refine z_a ?_|refine z_b ?_)
      refine apO und23 inf5 (by rfl) (by decide) hA1.l1 hel (u8_one _) (by simp only [List.length_map, List.length_append]; omega) ?_
      intro v2 w2 ho2 hbl2 hT2
      rw [← List.map_append] at ho2
      have hblk2 := hA1.blk.turns hT2 (fun he => hA1.l2.ne hA1.hue (by omega) he)
      obtain ⟨hA3, hT3⟩ := hA1.logged ho2 hbl2 hT2
      (repeat with_reducible first|refine fd f3 (by decide) ?_|refine z_a ?_)
      obtain ⟨A2, n2, rfl⟩ := ho2.slice
      refine st sz23 rfl (by rw [hblk2.cell 3]; rfl) (hblk2.frozen 3) ?_
      have hs1' := hT1.size
      (repeat with_reducible first|refine z_o (by omega) ?_)
      refine hJ _ _ ⟨j + 1, col c' w1.heap.size 2, Value.slice A2 ((d.log ++ (d.waits.take j).flatten ++ d.waits[j]).map u8).length n2, by omega, by simp, fun x hx => ?_, ?_, hT1.step hcc hT3⟩ (by simp [intOf]; omega)
      · rw [col_lt _ _ _ x (by omega), hcc x hx]
      · have e : d.log ++ (d.waits.take (j + 1)).flatten = d.log ++ (d.waits.take j).flatten ++ d.waits[j] := by rw [hft, List.append_assoc]
        rw [e]; exact hA3
    have hjk : j = k := by omega
    subst hjk
    (repeat with_reducible first|refine z_c ?_)
    refine JoinP.cut (fun _ w' => ∃ (c' : Nat → Nat) (l' : Value), (∀ x, x < w.heap.size → c' x = c x) ∧ DiskAt c' w' g { d with log := d.log ++ ((d.waits.take j).flatten ++ (if j < d.waits.length then ((d.waits.getD j []).take (min (max torn 0) (((d.waits.getD j []).length : Int) - 1)).toNat) else [])) } s l' (.slice Aq d.waits.length cq) xs ∧ Turns (D c) w w') (fun J1 hJ1 => ?_) ?_
    · (repeat with_reducible first|refine fd f4 (by decide) ?_|refine ld one45 c4' ?_|refine z_a ?_)
      refine ln und45 ?_
      (first | refine bi_lss_c (fun h => ?_) (fun h => ?_) | refine bi_eql_c (fun h => ?_) (fun h => ?_) | refine bi_neq_c (fun h => ?_) (fun h => ?_) | refine bi_gtr_c (fun h => ?_) (fun h => ?_) | refine bi_leq_c (fun h => ?_) (fun h => ?_) | refine bi_geq_c (fun h => ?_) (fun h => ?_) | refine bi_seql_c (fun h => ?_) (fun h => ?_) | refine bi_sneq_c (fun h => ?_) (fun h => ?_))
      · have hjl : j < d.waits.length := by omega
        obtain ⟨hel, hec⟩ := hA1.el j (by omega) hjl
        replace hel : RdB w1 xs[j] d.waits[j] := hel
        have hget : d.waits.getD j [] = d.waits[j] := by rw [List.getD_eq_getElem?_getD, List.getElem?_eq_getElem hjl]; rfl
        have hpos := hne d.waits[j] (List.getElem_mem _)
        have hfl1 := Frame.flat_le d.waits (j + 1)
        rw [Frame.flat_take d.waits j hjl, List.length_append] at hfl1
        have hqrd := hA1.q1.rd
        obtain ⟨_, _, he, _⟩ := id hqrd
        simp only [Value.slice.injEq] at he
        obtain ⟨a, rfl, hca⟩ := Rd.at hqrd j (by omega)
        (repeat with_reducible first|refine fd f4 (by decide) ?_|refine ld one45 c4' ?_|refine ix1 und45 sz23 hjl ?_|refine ld one23 hca ?_|refine z_a ?_|refine z_b ?_)
        have hdr : Below w1.heap.size w1 w1.drew := (Below.refl _ _).drew
        have hA2 := hA1.below hdr
        obtain ⟨Ae, ne, hse, _⟩ := hel.slice
        rw [hse] at hel hec ⊢
        have hel2 := hel.below hdr
        have c3 : ∀ w', Blk w' g 56 #[.int .i64 d.room, .bool d.on, s, l', .slice (some a) d.waits.length cq] ∧ RdB w' (.slice Ae d.waits[j].length ne) d.waits[j] → w'.cell? ⟨g, 3, none⟩ = some l' := fun w' hb => hb.1.cell 3
        refine draw (fun w' => Blk w' g 56 #[.int .i64 d.room, .bool d.on, s, l', .slice (some a) d.waits.length cq] ∧ RdB w' (.slice Ae d.waits[j].length ne) d.waits[j]) ⟨hA2.blk, hel2⟩ ?_
        (repeat with_reducible first|refine yfd f3 (by decide) ?_|refine yl1 one23 c3 ?_|refine z_W ?_)
        refine ymx ?_
        (repeat with_reducible first|refine yln und23 ?_|refine z_a1 (by omega) ?_)
        refine ymn ?_
        obtain ⟨t0, ht0⟩ : ∃ t0 : Nat, min (max torn 0) ((d.waits[j].length : Int) - 1) = t0 := ⟨(min (max torn 0) ((d.waits[j].length : Int) - 1)).toNat, by omega⟩
        rw [hget, ht0] at hJ1
        rw [ht0]
        refine yctB und23 sz5 rfl (by obtain ⟨_, _, h1, h2, _⟩ := hel.slice; cases h1; exact h2) (fun w' h => h.2) .no (.at _ _) (Nat.zero_le _) (by omega) ?_
        intro v3 hv3
        refine act ?_
        have hT0 : Turns (D c) w w1.drew := hT1.then_below hdr
        have hw3 := hv3 _ ⟨hA2.blk, hel2⟩
        rw [List.drop_zero] at hw3
        refine apO und23 inf5 (by rfl) (by decide) hA2.l1 hw3 (u8_one _) (by simp only [List.length_map, List.length_append, List.length_take]; omega) ?_
        intro v4 w4 ho4 hbl4 hT4
        rw [← List.map_append] at ho4
        obtain ⟨r1, _, _, r4⟩ := hA2.but2 hT4 (fun k hk => hA2.l2 k hk)
        have hel4 := (r4 j (by omega) hjl).1
        have hse' := hse
        rw [hse] at hel4
        refine ⟨_, ⟨r1, hel4⟩, fun _ h => h, ?_⟩
        obtain ⟨hA3, hT3⟩ := hA2.logged ho4 hbl4 hT4
        (repeat with_reducible first|refine yfd f3 (by decide) ?_|refine z_W ?_)
        obtain ⟨A4, n4, rfl⟩ := ho4.slice
        refine st sz23 rfl (by rw [r1.cell 3]; rfl) (r1.frozen 3) ?_
        refine hJ1 _ _ ⟨col c' w1.drew.heap.size 2, Value.slice A4 ((d.log ++ (d.waits.take j).flatten ++ (d.waits[j]).take t0).map u8).length n4, fun x hx => ?_, ?_, hT0.step hcc hT3⟩
        · rw [col_lt _ _ _ x (by have := hT0.size; omega), hcc x hx]
        · rw [if_pos hjl, Int.toNat_natCast, ← List.append_assoc]
          exact hA3
      · (repeat with_reducible first|refine z_c ?_)
        refine hJ1 _ _ ⟨c', l', hcc, ?_, hT1⟩
        rw [if_neg (by omega), List.append_nil]
        exact hA1
    rintro _ w2 ⟨c2, l2, hc2, hA2, hT2⟩
    (repeat with_reducible first|refine fd f1 (by decide) ?_|refine z_a ?_)
    refine st sz4 rfl (by rw [hA2.blk.cell 1]; rfl) (hA2.blk.frozen 1) ?_
    have hA3 := hA2.putOn false
    have hT3 : Turns (D c) w (w2.setCell ⟨g, 1, none⟩ (.bool false)) := hT2.setCell (.inl (by show c g ≠ 0; rw [hA.hue]; omega)) _
    generalize w2.setCell ⟨g, 1, none⟩ (.bool false) = w3 at *
    (repeat with_reducible first|refine fd f4 (by decide) ?_|refine z_a ?_)
    refine st sz45 rfl (by rw [hA3.blk.cell 4]; rfl) (hA3.blk.frozen 4) ?_
    have hA4 := hA3.putQ0
    rw [hon, if_pos rfl]
    exact ⟨rfl, c2, hc2, ⟨_, _, _, _, hA4⟩, hT3.setCell (.inl (by show c g ≠ 0; rw [hA.hue]; omega)) _⟩
  · (repeat with_reducible first|refine fd f1 (by decide) ?_|refine ld one4 c1 ?_|refine z_a ?_|refine z_b ?_|refine z_F ?_)
    rw [hon]
    exact ⟨rfl, Left.of hD0 (Below.refl _ _)⟩
end Go.Proofs.Ytadbpelpbaikiaa.E
namespace Go.Proofs.Ytadbpelpbaikiaa.E
open Go Go.RowKit
set_option linter.unusedSimpArgs false
set_option linter.unusedVariables false

/-- As a row of slices. -/
theorem RdSS.cells {w : World} {v : Value} {bss : List (List UInt8)} (h : RdSS w v bss) : ∃ cs : List Value, Rd w v cs ∧ cs.length = bss.length ∧ (∀ u ∈ cs, u.oneCell' = true) ∧ ∀ i (h1 : i < cs.length) (h2 : i < bss.length), RdB w cs[i] bss[i] := by
  obtain ⟨A, c, rfl, g1, g2, g3⟩ := h
  have each : ∀ i, i < bss.length → ∃ u : Value, u.oneCell' = true ∧ (∃ a, A = some a ∧ w.cell? (a.add i) = some u) ∧ ∀ hi : i < bss.length, RdB w u bss[i] := fun i hi => by
    obtain ⟨a, A', n', c', h1, h2, h3⟩ := g3 i hi
    exact ⟨.slice A' n' c', rfl, ⟨a, h1, h2⟩, fun _ => h3⟩
  obtain ⟨y, hy⟩ := Deep.choose_lt each
  refine ⟨(List.range bss.length).map y, ⟨A, c, by simp, by simpa using g1, g2, fun i u hu => ?_⟩, by simp, ?_, ?_⟩
  · obtain ⟨hi, he⟩ := List.getElem?_eq_some_iff.1 hu
    simp at hi he
    subst he
    exact (hy i hi).2.1
  · intro u hu
    obtain ⟨i, hi, rfl⟩ := List.mem_map.1 hu
    exact (hy i (List.mem_range.1 hi)).1
  · intro i h1 h2
    simpa using (hy i h2).2.2 h2

end Go.Proofs.Ytadbpelpbaikiaa.E
namespace Go.Proofs.Ytadbpelpbaikiaa.E
open Go Go.RowKit
set_option linter.unusedSimpArgs false
set_option linter.unusedVariables false

instance (d : Dk) : Decidable d.small := inferInstanceAs (Decidable (_ ∧ _ ∧ _))
instance : DecidableEq Dk := fun a b => decidable_of_iff (a.room = b.room ∧ a.on = b.on ∧ a.state = b.state ∧ a.log = b.log ∧ a.waits = b.waits) (by cases a; cases b; simp)
theorem und54 : Try.prog.underlying 24 = some (.pointer 56) := by kernel_rfl
theorem scan_nil0 : Frame.scan [] = ([], 0) := Frame.scan_end [] (Frame.view_short [] (by simp))
theorem started_nil (room : Nat) : Dk.started ⟨room, false, [], [], []⟩ = ⟨room, true, [], [], []⟩ := by simp [Dk.started, scan_nil0]
end Go.Proofs.Ytadbpelpbaikiaa.E
