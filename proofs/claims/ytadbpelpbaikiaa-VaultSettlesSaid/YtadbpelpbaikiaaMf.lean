import Derived.Test.YtadbpelpbaikiaaMe
namespace Go.Proofs.Ytadbpelpbaikiaa.E
open Go Go.RowKit
set_option linter.unusedSimpArgs false
set_option linter.unusedVariables false

/-- Two vaults of one text. -/
structure StV (l : List ActT) (i : Nat) (M N : VmT) : Prop where
  ex : M.base ++ allV M.a = N.base ++ allV N.a
  eb : M.b = N.b
  ok1 : VmOk M
  ok2 : VmOk N
  rm1 : M.room = 4194304
  rm2 : N.room = 4194304
  n1 : 0 ≤ M.n ∧ M.n ≤ i
  n2 : 0 ≤ N.n ∧ N.n ≤ i
  m1 : 0 ≤ M.m ∧ M.m ≤ N.m
  m2 : N.m ≤ i
  la : M.a.length ≤ N.a.length
  sz : N.s.length ≤ sizes (l.take i) + i
  len : (N.a ++ N.b).length ≤ i
section
variable {l : List ActT} {i : Nat} {M N : VmT}
theorem StV.s (h : StV l i M N) : M.s = N.s := by
  unfold VmT.s
  rw [allV_append, allV_append, ← List.append_assoc, ← List.append_assoc, h.ex, h.eb]
theorem StV.up (h : StV l i M N) : StV l (i + 1) M N := by
  have := h.n1
  have := h.n2
  have := h.m2
  have := h.sz
  have := h.len
  have := sizes_mono l i
  exact ⟨h.ex, h.eb, h.ok1, h.ok2, h.rm1, h.rm2, by omega, by omega, h.m1, by omega, h.la, by omega, by omega⟩
theorem StV.len1 (h : StV l i M N) : (M.a ++ M.b).length ≤ i := by
  have := h.la
  have := h.len
  rw [List.length_append] at this ⊢
  rw [h.eb]
  omega
theorem StV.do_ (h : StV l i M N) (hi : i < l.length) (hl : l.length ≤ 60) (hz : sizes l ≤ 4000) : StV l (i + 1) (M.do_ (cmdT l[i])) (N.do_ (cmdT l[i])) := by
  have h1 := h.n1
  have h2 := h.n2
  have h3 := h.sz
  have h4 := h.len
  have h5 := sizes_take l i hi
  have h6 := sizes_le l (i + 1)
  have h7 := h.len1
  have h8 := h.s
  have h9 := h.m1
  have h10 := h.m2
  refine ⟨h.ex, by show M.b ++ _ = N.b ++ _; rw [h.eb], h.ok1.do_ _ (by omega) (by rw [h8]; omega) (by omega) (by omega), h.ok2.do_ _ (by omega) (by omega) (by omega) (by omega), h.rm1, h.rm2, by show 0 ≤ M.n + 1 ∧ M.n + 1 ≤ _; omega, by show 0 ≤ N.n + 1 ∧ N.n + 1 ≤ _; omega, by show 0 ≤ M.m + 1 ∧ M.m + 1 ≤ N.m + 1; omega, by show N.m + 1 ≤ _; omega, h.la, ?_, ?_⟩
  · rw [N.do_s]
    simp only [List.length_append, List.length_cons, List.length_nil]
    omega
  · show (N.a ++ (N.b ++ [cmdT l[i]])).length ≤ _
    rw [List.length_append] at h4
    simp only [List.length_append, List.length_cons, List.length_nil]
    omega
theorem nofull_of {K : VmT} {j : Nat} (hr : K.room = 4194304) (hs : K.s.length ≤ sizes (l.take j) + j) (hl : (K.a ++ K.b).length ≤ j) (hi : j < l.length) (hl6 : l.length ≤ 60) (hz : sizes l ≤ 4000) : ¬ K.full (cmdT l[j]) := by
  have h5 := sizes_take l j hi
  have h6 := sizes_le l (j + 1)
  have h9 := K.slen
  unfold VmT.full
  rw [VmT.used, hr]
  split <;> omega
theorem StV.nofull (h : StV l i M N) (hi : i < l.length) (hl : l.length ≤ 60) (hz : sizes l ≤ 4000) : ¬ M.full (cmdT l[i]) ∧ ¬ N.full (cmdT l[i]) :=
  ⟨nofull_of h.rm1 (by rw [h.s]; exact h.sz) h.len1 hi hl hz, nofull_of h.rm2 h.sz h.len hi hl hz⟩
theorem StV.noset (h : StV l i M N) (hi : i < l.length) (hl : l.length ≤ 60) (hz : sizes l ≤ 4000) : ¬ M.room < M.s.length + 9 := by
  have h3 := h.sz
  have h6 := sizes_le l i
  rw [h.s, h.rm1]
  omega
theorem StV.settle (h : StV l i M N) : StV l (i + 1) M.settle N.sync := by
  have h0 := h.up
  have e : N.sync.a ++ N.sync.b = N.a ++ N.b := by simp [VmT.sync]
  refine ⟨?_, rfl, h.ok1.settle, h.ok2.sync, h.rm1, h.rm2, h0.n1, h0.n2, h0.m1, h0.m2, Nat.zero_le _, by rw [sync_s]; exact h0.sz, by rw [e]; exact h0.len⟩
  show M.s ++ allV [] = N.base ++ allV (N.a ++ N.b)
  rw [h.s]
  exact List.append_nil _
theorem StV.crash (h : StV l i M N) (hi : i < 1000) (keep : Int) : StV l (i + 1) (M.crash keep) (N.crash keep) := by
  have h0 := h.up
  have hb := h.eb
  have hk := keepN_le keep N.b
  have hla := h.la
  have hln := h.len
  rw [List.length_append] at hln
  have e1 : (M.a ++ M.b.take (keepN keep M.b)).length = M.a.length + keepN keep N.b := by rw [hb, List.length_append, List.length_take]; omega
  have e2 : (N.a ++ N.b.take (keepN keep N.b)).length = N.a.length + keepN keep N.b := by rw [List.length_append, List.length_take]; omega
  refine ⟨?_, rfl, h.ok1.crash keep, h.ok2.crash keep, h.rm1, h.rm2, ?_, ?_, ?_, ?_, ?_, ?_, ?_⟩
  · show M.base ++ allV (M.a ++ M.b.take (keepN keep M.b)) = N.base ++ allV (N.a ++ N.b.take (keepN keep N.b))
    rw [allV_append, allV_append, ← List.append_assoc, ← List.append_assoc, h.ex, hb]
  · show 0 ≤ (((M.a ++ M.b.take (keepN keep M.b)).length : Nat) : Int) ∧ (((M.a ++ M.b.take (keepN keep M.b)).length : Nat) : Int) ≤ _
    rw [e1]; omega
  · show 0 ≤ (((N.a ++ N.b.take (keepN keep N.b)).length : Nat) : Int) ∧ (((N.a ++ N.b.take (keepN keep N.b)).length : Nat) : Int) ≤ _
    rw [e2]; omega
  · show 0 ≤ (((M.a ++ M.b.take (keepN keep M.b)).length : Nat) : Int) ∧ (((M.a ++ M.b.take (keepN keep M.b)).length : Nat) : Int) ≤ (((N.a ++ N.b.take (keepN keep N.b)).length : Nat) : Int)
    rw [e1, e2]; omega
  · show (((N.a ++ N.b.take (keepN keep N.b)).length : Nat) : Int) ≤ _
    rw [e2]; omega
  · show (M.a ++ M.b.take (keepN keep M.b)).length ≤ (N.a ++ N.b.take (keepN keep N.b)).length
    rw [e1, e2]; omega
  · have e3 : (N.crash keep).s = N.base ++ allV (N.a ++ N.b.take (keepN keep N.b)) := by simp [VmT.crash, VmT.s]
    have e4 := (crash_len (M := N) keep).2
    have e5 : N.s.length = N.base.length + (allV (N.a ++ N.b)).length := by unfold VmT.s; rw [List.length_append]
    have e6 := h0.sz
    rw [e3, List.length_append]
    omega
  · show (N.a ++ N.b.take (keepN keep N.b) ++ []).length ≤ _
    rw [List.append_nil, e2]; omega
theorem stv0 (l : List ActT) : StV l 0 (vm0 4194304) (vm0 4194304) := ⟨rfl, rfl, vm0_ok _ (by omega), vm0_ok _ (by omega), rfl, rfl, by dsimp only [vm0]; decide, by dsimp only [vm0]; decide, by dsimp only [vm0]; decide, by dsimp only [vm0]; decide, Nat.le_refl _, by simp [vm0, VmT.s, allV], by simp [vm0]⟩
end
set_option maxHeartbeats 4000000 in
theorem VaultSettles4 (v : Value) (l : List ActT) (w : World) (hv : Acts w [v] l) : CallP Try.prog 4 #[v] (fun r w' => r = .bool true ∧ Below w.heap.size w w') w := by
  obtain ⟨A, cc, rfl, hcc, hcm⟩ := hv.slice
  refine ⟨S4.calls _ _ _ ?_⟩
  unfold S4
  refine (awake7 w).mono ?_
  rintro _ wa ⟨rfl, hba⟩
  (repeat with_reducible first|refine z_c ?_|refine z_E ?_)
  simp only [Bool.not_true]
  skip
  refine (light15 _ l wa (keeps_Acts _ _ _ _ hba hv)).mono ?_
  rintro _ _ ⟨b, rfl, hlt, rfl⟩
  refine bi_not ?_
  cases b with
  | false =>
    simp only [Bool.not_false]
    (repeat with_reducible first|refine z_b ?_)
    exact ⟨by first | rfl | trivial, hba⟩
  | true =>
  obtain ⟨hl, hz⟩ := hlt rfl
  simp only [Bool.not_true]
  (repeat with_reducible first|refine z_c ?_)
  have hMa := (MemX.nil w).below hba
  refine (vnew (h := 1) hMa (by omega) 4194304 (by omega)).mono ?_
  rintro _ w1 ⟨gd, rfl, hM1⟩
  (repeat with_reducible first|refine z_A ?_|refine z_B ?_)
  refine (vnew (h := 2) hM1 (by omega) 4194304 (by omega)).mono ?_
  rintro _ w2 ⟨ge, rfl, hM2⟩
  (repeat with_reducible first|refine z_A ?_|refine z_B ?_)
  refine (vopen0 4194304 (by omega) hM2.sw (by simp [dkO])).mono ?_
  rintro _ w3 ⟨g, gt, rfl, hM3⟩
  (repeat with_reducible first|refine z_A ?_|refine z_B ?_)
  refine (vopen0 4194304 (by omega) hM3.sw (by simp [vlO])).mono ?_
  rintro _ w4 ⟨k, gu, rfl, hM4⟩
  (repeat with_reducible first|refine z_A ?_|refine z_B ?_)
  have hM4 := hM4.sw
  refine LoopP.invL (fun vs w' => ∃ (i g gt k gu : Nat) (M N : VmT), i ≤ l.length ∧ vs = [.pointer (some ⟨g, 0, none⟩), .pointer (some ⟨gt, 0, none⟩), .pointer (some ⟨k, 0, none⟩), .pointer (some ⟨gu, 0, none⟩), .int .i64 i] ∧ StV l i M N ∧ MemX w w' [vlO 1 g gd gt M.v (by omega), vlO 2 k ge gu N.v (by omega)]) (fun vs => l.length - (intOf (vs.tail.tail.tail.tail.headD undef)).toNat) ⟨0, g, gt, k, gu, vm0 4194304, vm0 4194304, by omega, rfl, stv0 l, hM4⟩ ?_
  clear hM4 hM3 hM2 hM1 hMa hba
  rintro _ w5 ⟨i, g, gt, k, gu, M, N, hi, rfl, hP, hM⟩ J hJ
  dsimp only [List.headD_cons, List.tail_cons]
  refine ln undAs ?_
  by_cases hlt : i < l.length
  rotate_left
  · refine bi_lss_f (by omega) ?_
    (repeat with_reducible first|refine z_c ?_)
    refine ofPR (pr_pnot undVp) ?_
    simp only [Option.isSome_some]
    (repeat with_reducible first|refine z_d ?_)
    refine ofPR (pr_pnot undVp) ?_
    simp only [Option.isSome_some]
    (repeat with_reducible first|refine z_d ?_|refine z_k ?_)
    refine (vcount hM (List.mem_cons_self ..)).mono ?_
    rintro _ _ ⟨rfl, rfl⟩
    (repeat with_reducible first|refine z_d ?_)
    refine (vcount hM (List.mem_cons_of_mem _ (List.mem_cons_self ..))).mono ?_
    rintro _ _ ⟨rfl, rfl⟩
    have hm : M.v.m ≤ N.v.m := hP.m1.2
    refine gdY ?_
    refine bi_leq_t hm ?_
    (repeat with_reducible first|refine z_k ?_)
    exact ⟨by first | rfl | trivial, hM.bel⟩
  refine bi_lss_t (by omega) ?_
  (repeat with_reducible first|refine z_b ?_)
  refine ofPR (pr_pnil undVp) ?_
  simp only [Option.isNone_some]
  (repeat with_reducible first|refine z_d ?_)
  refine ofPR (pr_pnil undVp) ?_
  simp only [Option.isNone_some]
  (repeat with_reducible first|refine z_c ?_|refine z_l ?_)
  obtain ⟨a, rfl, ha⟩ := act_at hv i hlt
  have hlen := hP.len
  have hsz := hP.sz
  have hsl := sizes_le l i
  refine JoinP.cut (fun vs w' => ∃ (g gt k gu : Nat) (M N : VmT), vs = [.pointer (some ⟨g, 0, none⟩), .pointer (some ⟨gt, 0, none⟩), .pointer (some ⟨k, 0, none⟩), .pointer (some ⟨gu, 0, none⟩)] ∧ StV l (i + 1) M N ∧ MemX w w' [vlO 1 g gd gt M.v (by omega), vlO 2 k ge gu N.v (by omega)]) (fun J1 hJ1 => ?_) ?_
  · refine ixN undAs szAc i hlt ?_
    refine fdA ac0 (by decide) ?_
    refine ld one3 (ha.c0 _ hM.bel) ?_
    refine bi_eql_c (fun k1 => ?_) (fun k1 => ?_)
    · (repeat with_reducible first|refine z_b ?_)
      refine ixN undAs szAc i hlt ?_
      refine fdA ac1 (by decide) ?_
      refine ld oneT (ha.c1 _ hM.bel) ?_
      have hcl : (cmdT l[i]).length ≤ 65536 := by have := sizes_take l i hlt; have := sizes_le l (i + 1); omega
      obtain ⟨nf1, nf2⟩ := hP.nofull hlt hl hz
      refine (vdo hM (by simp [vlO]) hP.ok1 (cmdT l[i]) hcl).mono ?_
      rintro _ w6 ⟨rfl, hM6⟩
      rw [if_neg nf1] at hM6
      rw [if_neg nf1, if_neg nf1]
      (repeat with_reducible first|refine z_A ?_|refine z_B ?_)
      refine ixN undAs szAc i hlt ?_
      refine fdA ac1 (by decide) ?_
      refine ld oneT (ha.c1 _ hM6.bel) ?_
      refine (vdo hM6.sw (by simp [vlO]) hP.ok2 (cmdT l[i]) hcl).mono ?_
      rintro _ w7 ⟨rfl, hM7⟩
      rw [if_neg nf2] at hM7
      rw [if_neg nf2, if_neg nf2]
      (repeat with_reducible first|refine z_A ?_|refine z_B ?_)
      refine tl_neq_f (fun h => h (by rw [hP.s])) ?_
      (repeat with_reducible first|refine z_c ?_|refine z_d ?_|refine z_l ?_|refine z_t (by omega) ?_)
      exact hJ1 _ _ ⟨g, gt, k, gu, _, _, rfl, hP.do_ hlt hl hz, hM7.sw⟩
    (repeat with_reducible first|refine z_c ?_)
    refine JoinP.cut (fun vs w' => vs = [.bool (decide (l[i].1 = 2 ∨ l[i].1 = 3))] ∧ w' = w5) (fun J2 hJ2 => ?_) ?_
    · refine bi_eql_c (fun k2 => ?_) (fun k2 => ?_)
      · (repeat with_reducible first|refine z_b ?_)
        exact hJ2 _ _ ⟨by rw [decide_eq_true (.inl k2)], rfl⟩
      (repeat with_reducible first|refine z_c ?_)
      refine bi_eql_c (fun k3 => ?_) (fun k3 => ?_)
      · exact hJ2 _ _ ⟨by rw [decide_eq_true (.inr k3)], rfl⟩
      · exact hJ2 _ _ ⟨by rw [decide_eq_false (fun h => h.elim k2 k3)], rfl⟩
    rintro _ _ ⟨rfl, rfl⟩
    dsimp only [List.headD_cons, List.tail_cons]
    by_cases k23 : l[i].1 = 2 ∨ l[i].1 = 3
    · rw [decide_eq_true k23]
      (repeat with_reducible first|refine z_b ?_)
      refine (vsettle hM (by simp [vlO]) hP.ok1).mono ?_
      rintro _ w6 ⟨rfl, hM6⟩
      have nf := hP.noset hlt hl hz
      rw [if_neg nf] at hM6
      rw [if_neg nf]
      refine (vsync hM6.sw (by simp [vlO]) hP.ok2).mono ?_
      rintro _ w7 ⟨rfl, hM7⟩
      (repeat with_reducible first|refine z_c ?_|refine z_t (by omega) ?_)
      exact hJ1 _ _ ⟨g, gt, k, gu, _, _, rfl, hP.settle, hM7.sw⟩
    rw [decide_eq_false k23]
    (repeat with_reducible first|refine z_c ?_)
    refine bi_eql_c (fun k4 => ?_) (fun k4 => ?_)
    rotate_left
    · (repeat with_reducible first|refine z_c ?_)
      exact hJ1 _ _ ⟨g, gt, k, gu, M, N, rfl, hP.up, hM⟩
    (repeat with_reducible first|refine z_b ?_)
    have hdr : ∀ u : World, Below u.heap.size u u.drew := fun u => (Below.refl _ _).drew
    have hbd := below_then hM.bel (hdr _)
    refine draw (Below w.heap.size w) hbd ?_
    refine yixA undAs szAc i hlt ?_
    refine yfdA ac2 (by decide) ?_
    refine yl1 one3 ha.c2 ?_
    refine yixA undAs szAc i hlt ?_
    refine yfdA ac3 (by decide) ?_
    refine yl1 one3 ha.c3 ?_
    refine (vcrash (hM.below (hdr _)) (by simp [vlO]) hP.ok1 l[i].2.2.1 l[i].2.2.2.1).mono ?_
    rintro _ w6 ⟨rfl, hM6⟩
    have hdr6 := (Below.refl w6.heap.size w6).drew
    have hbd6 := below_then hM6.bel hdr6
    refine draw (Below w.heap.size w) hbd6 ?_
    refine yixA undAs szAc i hlt ?_
    refine yfdA ac2 (by decide) ?_
    refine yl1 one3 ha.c2 ?_
    refine yixA undAs szAc i hlt ?_
    refine yfdA ac3 (by decide) ?_
    refine yl1 one3 ha.c3 ?_
    refine (vcrash (hM6.below hdr6).sw (by simp [dkO]) hP.ok2 l[i].2.2.1 l[i].2.2.2.1).mono ?_
    rintro _ w7 ⟨rfl, hM7⟩
    refine (vopen hM7.sw (by simp [dkO]) hP.ok1).mono ?_
    rintro _ w8 ⟨g', gt', rfl, hM8⟩
    (repeat with_reducible first|refine z_A ?_|refine z_B ?_)
    refine (vopen hM8.sw (by simp [vlO]) hP.ok2).mono ?_
    rintro _ w9 ⟨k', gu', rfl, hM9⟩
    (repeat with_reducible first|refine z_A ?_|refine z_B ?_)
    exact hJ1 _ _ ⟨g', gt', k', gu', _, _, rfl, hP.crash (by omega) _, hM9.sw⟩
  · rintro _ w6 ⟨g, gt, k, gu, M, N, rfl, hP, hM⟩
    dsimp only [List.headD_cons, List.tail_cons]
    have hT := vtape hM (List.mem_cons_self ..)
    have hU := vtape hM (List.mem_cons_of_mem _ (List.mem_cons_self ..))
    have hdr : Below w6.heap.size w6 w6.drew := (Below.refl _ _).drew
    have q0 : ∀ w', Below w6.heap.size w6 w' → w'.cell? ⟨gt, 0, none⟩ = some (tS M.s) := fun w' hb => (hT.below' hb).cell 0
    have q1 : ∀ w', Below w6.heap.size w6 w' → w'.cell? ⟨gu, 0, none⟩ = some (tS N.s) := fun w' hb => (hU.below' hb).cell 0
    refine draw (Below w6.heap.size w6) hdr ?_
    (repeat with_reducible first|refine yfd t0 (by decide) ?_|refine yl1 oneT q0 ?_|refine yl1 oneT q1 ?_|refine z_W ?_)
    refine ty_neq_f (fun h => h hP.s) ?_
    (repeat with_reducible first|refine z_c ?_)
    (repeat with_reducible first|refine z_o (by omega) ?_)
    rw [show (i : Int) + 1 = ((i + 1 : Nat) : Int) by omega]
    exact hJ _ _ ⟨i + 1, g, gt, k, gu, M, N, by omega, rfl, hP, hM.below hdr⟩ (by show l.length - ((i + 1 : Nat) : Int).toNat < l.length - (i : Int).toNat; omega)
end Go.Proofs.Ytadbpelpbaikiaa.E
