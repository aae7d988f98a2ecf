import Derived.Test.YtadbpelpbaikiaaMc
namespace Go.Proofs.Ytadbpelpbaikiaa.E
open Go Go.RowKit
set_option linter.unusedSimpArgs false
set_option linter.unusedVariables false

section
variable {w0 w : World} {h gd : Nat} {hp : 0 < h ∧ h < 999} {d : Dk} {B : List Ob9}
theorem dstart (hM : MemX w0 w (dkO h gd d hp :: B)) (hd : ∀ x ∈ B, x.hu ≠ h) (hsm : d.small) (hoff : d.on = false) :
    CallP Try.prog 9 #[.pointer (some ⟨gd, 0, none⟩)] (fun r w' => (∃ x y, r = .tuple #[x, y, .int .i64 0]) ∧ MemX w0 w' (dkO h gd d.started hp :: B)) w := by
  obtain ⟨c, ⟨cd, h1, h2⟩, h3⟩ := hM.one hd
  refine (Start_spec cd w gd d h2 hsm).mono ?_
  intro r w1 hr
  rw [hoff] at hr
  obtain ⟨x, y, cd1, rfl, e1, e2, h4, hT1, _⟩ := hr
  obtain ⟨c', cd', f1, _, f3, f4, _, f6⟩ := disk_step h1 (⟨cd1, e1, h4, hT1⟩ : Left cd w gd d.started w1)
  exact ⟨⟨x, y, rfl⟩, h3 (dkO h gd d.started hp) w1 ⟨c', f1, ⟨cd', f3, f4⟩, f6⟩⟩
theorem dcheck (hM : MemX w0 w (dkO h gd d hp :: B)) (hd : ∀ x ∈ B, x.hu ≠ h) (hsm : d.small) (v : Value) (bs : List UInt8) (hv : RdB w v bs) (hl : bs.length ≤ 100000000) :
    CallP Try.prog 10 #[.pointer (some ⟨gd, 0, none⟩), v] (fun r w' => r = .int .i64 (checkAns d bs) ∧ MemX w0 w' (dkO h gd (if checkAns d bs = 0 then { d with state := bs, log := [] } else d) hp :: B)) w := by
  obtain ⟨c, ⟨cd, h1, h2⟩, h3⟩ := hM.one hd
  refine (Checkpoint_spec cd w gd d v bs h2 hsm hv hl).mono ?_
  rintro r w1 ⟨rfl, hL⟩
  obtain ⟨c', cd', f1, _, f3, f4, _, f6⟩ := disk_step h1 hL
  exact ⟨rfl, h3 (dkO h gd (if checkAns d bs = 0 then { d with state := bs, log := [] } else d) hp) w1 ⟨c', f1, ⟨cd', f3, f4⟩, f6⟩⟩
theorem dcrash (hM : MemX w0 w (dkO h gd d hp :: B)) (hd : ∀ x ∈ B, x.hu ≠ h) (hsm : d.small) (hon : d.on = true) (hne : ∀ p ∈ d.waits, 0 < p.length) (keep torn : Int) :
    CallP Try.prog 12 #[.pointer (some ⟨gd, 0, none⟩), .int .i64 keep, .int .i64 torn] (fun r w' => r = .tuple #[] ∧ MemX w0 w' (dkO h gd (d.crash keep torn) hp :: B)) w := by
  obtain ⟨c, ⟨cd, h1, h2⟩, h3⟩ := hM.one hd
  refine (Crash_spec cd w gd d keep torn h2 hsm hne).mono ?_
  rintro r w1 ⟨rfl, hL⟩
  rw [if_pos hon] at hL
  obtain ⟨c', cd', f1, _, f3, f4, _, f6⟩ := disk_step h1 hL
  exact ⟨rfl, h3 (dkO h gd (d.crash keep torn) hp) w1 ⟨c', f1, ⟨cd', f3, f4⟩, f6⟩⟩
theorem don (hM : MemX w0 w (dkO h gd d hp :: B)) : CallP Try.prog 13 #[.pointer (some ⟨gd, 0, none⟩)] (fun r w' => r = .bool d.on ∧ w' = w) w := by
  obtain ⟨c, _, h2⟩ := hM.look
  obtain ⟨cd, _, s, l, q, xs, hA⟩ := h2 (dkO h gd d hp) (by simp)
  refine ⟨S13.calls _ _ _ ?_⟩
  unfold S13
  have c1 : w.cell? ⟨gd, 1, none⟩ = some (.bool d.on) := hA.blk.cell 1
  (repeat with_reducible first|refine fd f1 (by decide) ?_|refine ld one4 c1 ?_|refine z_a ?_)
  exact ⟨rfl, rfl⟩
/-- Open over a tape that was just made. -/
theorem mopen (hM : MemX w0 w (dkO h gd d hp :: B)) (hd : ∀ x ∈ B, x.hu ≠ h) (hsm : d.small) (hs : d.state.length + (allV (Frame.scan d.log).1).length ≤ 900000) {gt : Nat} {w1 : World} (hgt : gt = w.heap.size) (hB1 : Blk w1 gt 37 (tpC [] 0)) (hb1 : Below w.heap.size w w1) :
    CallP Try.prog 11 #[.pointer (some ⟨gd, 0, none⟩), .iface 35 (.pointer (some ⟨gt, 0, none⟩))] (fun r w2 =>
      (d.on = true → r = .tuple #[.pointer none, .int .i64 8] ∧ MemX w0 w2 (dkO h gd d hp :: B)) ∧
      (d.on = false → d.state ≠ [] → ldOk d.state = false → r = .tuple #[.pointer none, .int .i64 3] ∧ MemX w0 w2 (dkO h gd d.started hp :: B)) ∧
      (d.on = false → d.state = [] ∨ ldOk d.state = true → ∃ g, r = .tuple #[.pointer (some ⟨g, 0, none⟩), .int .i64 0] ∧ MemX w0 w2 (vlO h g gd gt (openV d) hp :: B))) w1 := by
  obtain ⟨c, ⟨cd, h1, h2⟩, h3⟩ := hM.one hd
  have hcc := col_lt c w.heap.size h
  have hs1 := hb1.size
  have lift3 : ∀ (Q : (Nat → Nat) → World → Prop) (w2 : World), Lft h (col c w.heap.size h) w1 Q w2 → Lft h c w Q w2 := fun Q w2 ⟨c2, e1, e2, e3⟩ => by
    refine ⟨c2, fun k hk => by rw [e1 k (by omega), hcc k hk], e2, (Turns.of_below hb1).trans (e3.mono fun k hk e => ?_)⟩
    by_cases hk1 : k < w.heap.size
    · exact .inl ((hcc k hk1).symm.trans e)
    · exact .inr (by omega)
  refine (Open11 (h := h) (c := col c w.heap.size h) (cd := fun k => if k < w.heap.size then cd k else 0) (cut_col h1 hcc) ((h2.re (c' := fun k => if k < w.heap.size then cd k else 0) fun k hk => if_pos hk).below hb1) hsm ⟨col_ge _ _ _ (by omega), (by show (if gt < w.heap.size then cd gt else 0) = 0; rw [if_neg (by omega)]), hB1⟩ hs).mono ?_
  rintro r w2 ⟨p1, p2, p3⟩
  refine ⟨fun e => ?_, fun e1 e2 e3 => ?_, fun e1 e2 => ?_⟩
  · obtain ⟨rfl, rfl⟩ := p1 e
    exact ⟨rfl, hM.below hb1⟩
  · obtain ⟨rfl, hL⟩ := p2 e1 e2 e3
    exact ⟨rfl, h3 (dkO h gd d.started hp) w2 (lift3 _ w2 hL)⟩
  · obtain ⟨g, rfl, _, hL⟩ := p3 e1 e2
    exact ⟨g, rfl, h3 (vlO h g gd gt (openV d) hp) w2 (lift3 _ w2 hL)⟩
end
set_option maxHeartbeats 2000000 in
theorem VaultForms3 (v : Value) (bs : List UInt8) (w : World) (hv : RdB w v bs) : CallP Try.prog 3 #[v] (fun r w' => r = .bool true ∧ Below w.heap.size w w') w := by
  have hv0 := hv
  obtain ⟨A, cc, rfl, hcc, hcm, _⟩ := hv.slice
  refine ⟨S3.calls _ _ _ ?_⟩
  unfold S3
  refine (awake7 w).mono ?_
  rintro _ wa ⟨rfl, hba⟩
  (repeat with_reducible first|refine z_c ?_|refine z_E ?_)
  simp only [Bool.not_true]
  skip
  refine ln und23 ?_
  refine bi_gtr_c (fun hl => ?_) (fun hl => ?_)
  · (repeat with_reducible first|refine z_b ?_)
    exact ⟨by first | rfl | trivial, hba⟩
  have hl : bs.length ≤ 1000 := by omega
  (repeat with_reducible first|refine z_c ?_)
  have hMa : MemX w wa [] := (MemX.nil w).below hba
  refine (vnew (h := 1) hMa (by omega) 4194304 (by omega)).mono ?_
  rintro _ w1 ⟨gd, rfl, hM1⟩
  (repeat with_reducible first|refine z_A ?_|refine z_B ?_)
  refine ofPR (pr_pnil und54) ?_
  simp only [Option.isNone_some]
  (repeat with_reducible first|refine z_c ?_)
  have sm0 : Dk.small ⟨4194304, false, [], [], []⟩ := by decide
  refine (dstart hM1 (by simp) sm0 rfl).mono ?_
  rintro _ w2 ⟨⟨x, y, rfl⟩, hM2⟩
  rw [started_nil] at hM2
  have sm1 : Dk.small ⟨4194304, true, [], [], []⟩ := by decide
  have hck : checkAns ⟨4194304, true, [], [], []⟩ bs = 0 := by
    unfold checkAns costL
    rw [if_neg (by decide), if_neg (by decide), if_neg]
    show ¬ 4194304 < (if bs.length = 0 then 0 else bs.length + 8)
    split <;> omega
  refine (dcheck hM2 (by simp) sm1 _ bs (hv0.below hM2.bel) (by omega)).mono ?_
  rintro _ w3 ⟨rfl, hM3⟩
  rw [hck, if_pos rfl] at hM3
  have hcost : costL bs ≤ 1008 := by unfold costL; split <;> omega
  have sm2 : Dk.small ⟨4194304, true, bs, [], []⟩ := by
    refine ⟨?_, by show (0 : Nat) ≤ 100000; omega, by show (4194304 : Nat) ≤ 4194304; omega⟩
    show costL bs + 0 + 0 ≤ 900000
    omega
  have hM3 : MemX w w3 [dkO 1 gd ⟨4194304, true, bs, [], []⟩ (by omega)] := hM3
  have hsc : bs.length + (allV (Frame.scan []).1).length ≤ 900000 := by rw [scan_nil0]; simp [allV]; omega
  refine bd (cells := tpC [] 0) (by kernel_rfl) ?_
  refine bxB ?_
  intro gt w4 hgt hB4 hb4
  refine mki undTp rfl ?_
  refine (mopen hM3 (by simp) sm2 hsc hgt hB4 hb4).mono ?_
  rintro _ w5 ⟨p1, _, _⟩
  obtain ⟨rfl, hM5⟩ := p1 rfl
  (repeat with_reducible first|refine z_A ?_|refine z_B ?_)
  refine ofPR (pr_pnot undVp) ?_
  simp only [Option.isSome_none]
  (repeat with_reducible first|refine z_c ?_|refine z_d ?_|refine z_l ?_|refine z_t (by omega) ?_)
  refine (dcrash hM5 (by simp) sm2 rfl (by simp) 0 0).mono ?_
  rintro _ w6 ⟨rfl, hM6⟩
  have ecr : Dk.crash ⟨4194304, true, bs, [], []⟩ 0 0 = ⟨4194304, false, bs, [], []⟩ := by simp [Dk.crash, crashed]
  rw [ecr] at hM6
  have sm3 : Dk.small ⟨4194304, false, bs, [], []⟩ := sm2
  refine bd (cells := tpC [] 0) (by kernel_rfl) ?_
  refine bxB ?_
  intro gt2 w7 hgt2 hB7 hb7
  refine mki undTp rfl ?_
  refine (mopen hM6 (by simp) sm3 hsc hgt2 hB7 hb7).mono ?_
  rintro r w8 ⟨_, p2, p3⟩
  have est : Dk.started ⟨4194304, false, bs, [], []⟩ = ⟨4194304, true, bs, [], []⟩ := by simp [Dk.started, scan_nil0]
  have eov : openV ⟨4194304, false, bs, [], []⟩ = ⟨⟨4194304, true, bs, [], []⟩, bs.drop 1, 0, 0⟩ := by
    unfold openV
    rw [est]
    simp [scan_nil0, VsT.didAll, allV]
  by_cases h0 : bs.length = 0
  · have hbs : bs = [] := List.eq_nil_of_length_eq_zero h0
    obtain ⟨g, rfl, hM8⟩ := p3 rfl (.inl hbs)
    rw [eov] at hM8
    have hT := vtape hM8 (List.mem_cons_self ..)
    have hdr : Below w8.heap.size w8 w8.drew := (Below.refl _ _).drew
    have q0 : ∀ w', Below w8.heap.size w8 w' → w'.cell? ⟨gt2, 0, none⟩ = some (tS (bs.drop 1)) := fun w' hb => (hT.below' hb).cell 0
    (repeat with_reducible first|refine z_A ?_|refine z_B ?_)
    refine ln und23 ?_
    (repeat with_reducible first|refine z_c ?_|refine z_e ?_|refine z_l ?_|refine z_v (by omega) ?_)
    refine draw (Below w8.heap.size w8) hdr ?_
    refine yofPR (pr_pnot undVp) ?_
    simp only [Option.isSome_some]
    (repeat with_reducible first|refine z_d ?_|refine z_h ?_|refine z_k ?_|refine z_b1 (by omega) ?_)
    refine act ?_
    refine (vcount (hM8.below hdr) (List.mem_cons_self ..)).mono ?_
    rintro _ _ ⟨rfl, rfl⟩
    refine ⟨_, hdr, fun _ h => h, ?_⟩
    dsimp only []
    (repeat with_reducible first|refine yln und23 ?_|refine z_W ?_|refine z_d ?_|refine z_k ?_|refine z_b1 (by omega) ?_)
    (repeat with_reducible first|refine yfd t0 (by decide) ?_|refine yl1 oneT q0 ?_|refine z_d ?_)
    refine ty_eql0_t (by rw [hbs]; rfl) ?_
    (repeat with_reducible first|refine z_d ?_|refine z_f ?_|refine z_g ?_|refine z_k ?_)
    exact ⟨by first | rfl | trivial, below_then hM8.bel hdr⟩
  · have hpos : 0 < bs.length := by omega
    obtain ⟨a, r', rfl⟩ : ∃ a r', bs = a :: r' := by
      cases bs with
      | nil => simp at hpos
      | cons a r' => exact ⟨a, r', rfl⟩
    have hlen : (((a :: r').length : Nat) : Int) > 0 := by omega
    by_cases h61 : a = 61
    · subst h61
      have hld : ldOk (61 :: r') = true := by unfold ldOk; exact decide_eq_true rfl
      obtain ⟨g, rfl, hM8⟩ := p3 rfl (.inr hld)
      rw [eov] at hM8
      have hT := vtape hM8 (List.mem_cons_self ..)
      have hdr : Below w8.heap.size w8 w8.drew := (Below.refl _ _).drew
      have q0 : ∀ w', Below w8.heap.size w8 w' → w'.cell? ⟨gt2, 0, none⟩ = some (tS r') := fun w' hb => (hT.below' hb).cell 0
      have hv8 := hv0.below hM8.bel
      obtain ⟨p, hp, hca⟩ := RdB.at hv8 0 hpos
      subst hp
      have hca : w8.cell? (p.add 0) = some (u8 61) := hca
      (repeat with_reducible first|refine z_A ?_|refine z_B ?_)
      refine ln und23 ?_
      (repeat with_reducible first|refine z_d ?_|refine z_u (by omega) ?_)
      refine ix1 und23 sz5 (i := 0) hpos ?_
      (repeat with_reducible first|refine z_d ?_)
      refine ld one5 hca ?_
      (repeat with_reducible first|refine z_d ?_)
      unfold u8
      refine bi_neq_f (by decide) ?_
      (repeat with_reducible first|refine z_c ?_|refine z_k ?_)
      refine draw (Below w8.heap.size w8) hdr ?_
      refine yofPR (pr_pnot undVp) ?_
      simp only [Option.isSome_some]
      (repeat with_reducible first|refine z_d ?_|refine z_h ?_|refine z_k ?_|refine z_b1 (by omega) ?_)
      refine act ?_
      refine (vcount (hM8.below hdr) (List.mem_cons_self ..)).mono ?_
      rintro _ _ ⟨rfl, rfl⟩
      refine ⟨_, hdr, fun _ h => h, ?_⟩
      dsimp only []
      (repeat with_reducible first|refine yln und23 ?_|refine z_W ?_|refine z_d ?_|refine z_e ?_|refine z_k ?_|refine z_l ?_|refine z_b1 (by omega) ?_|refine z_c1 (by omega) ?_|refine z_f1 (by omega) ?_)
      (repeat with_reducible first|refine yfd t0 (by decide) ?_|refine yl1 oneT q0 ?_|refine z_d ?_)
      refine yctB (l := 1) (k := (61 :: r').length) und23 sz5 rfl hcc (fun w' hb => hv8.below hb) (.at _ 1) .no hpos (Nat.le_refl _) ?_
      intro v9 hv9
      (repeat with_reducible first|refine z_d ?_)
      refine ycvBS und23 und5 undT hv9 ?_
      (repeat with_reducible first|refine z_d ?_)
      refine ty_eql_t (t := r') (u := ((61 :: r').take (61 :: r').length).drop 1) (by rw [List.take_length]; rfl) ?_
      (repeat with_reducible first|refine z_d ?_|refine z_k ?_|refine z_l ?_)
      exact ⟨by first | rfl | trivial, below_then hM8.bel hdr⟩
    · have hld : ldOk (a :: r') = false := by
        unfold ldOk
        rw [decide_eq_false]
        intro e
        exact h61 (by simpa using e)
      obtain ⟨rfl, hM8⟩ := p2 rfl (by simp) hld
      have hv8 := hv0.below hM8.bel
      obtain ⟨p, hp, hca⟩ := RdB.at hv8 0 hpos
      subst hp
      have hca : w8.cell? (p.add 0) = some (u8 a) := hca
      have hne : ¬ ((a.toNat : Int) = 61) := fun e => by
        apply h61
        apply UInt8.toNat_inj.1
        show a.toNat = 61
        omega
      (repeat with_reducible first|refine z_A ?_|refine z_B ?_)
      refine ln und23 ?_
      (repeat with_reducible first|refine z_d ?_|refine z_u (by omega) ?_)
      refine ix1 und23 sz5 (i := 0) hpos ?_
      (repeat with_reducible first|refine z_d ?_)
      refine ld one5 hca ?_
      (repeat with_reducible first|refine z_d ?_)
      unfold u8
      refine bi_neq_t hne ?_
      (repeat with_reducible first|refine z_b ?_|refine z_k ?_)
      refine ofPR (pr_pnil undVp) ?_
      simp only [Option.isNone_none]
      (repeat with_reducible first|refine z_d ?_|refine z_k ?_|refine z_q (by omega) ?_)
      refine (don hM8).mono ?_
      rintro _ _ ⟨rfl, rfl⟩
      rw [est]
      (repeat with_reducible first|refine z_k ?_)
      exact ⟨by first | rfl | trivial, hM8.bel⟩
end Go.Proofs.Ytadbpelpbaikiaa.E
