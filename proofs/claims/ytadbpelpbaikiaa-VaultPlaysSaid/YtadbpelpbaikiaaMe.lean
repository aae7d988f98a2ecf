import Derived.Test.YtadbpelpbaikiaaMd
namespace Go.Proofs.Ytadbpelpbaikiaa.E
open Go Go.RowKit
set_option linter.unusedSimpArgs false
set_option linter.unusedVariables false

theorem und4b : Try.prog.underlying 4 = some .bool := by kernel_rfl
theorem LoopP.invL {body : (List Value → World → Prop) → List Value → World → Prop} {vs0 : List Value} {w : World} (I : List Value → World → Prop) (μ : List Value → Nat) (h0 : I vs0 w)
    (hr : ∀ vs w', I vs w' → ∀ J : List Value → World → Prop, (∀ ys w'', I ys w'' → μ ys < μ vs → J ys w'') → body J vs w') : LoopP body vs0 w :=
  ⟨I, fun vs _ => μ vs, h0, fun vs w' h => hr vs w' h _ fun _ _ h1 h2 => ⟨h1, h2⟩⟩
theorem MemX.bs0 {K : Value → World → Prop} {w0 w : World} {B : List Ob9} (h : MemX w0 w B) (k : ∀ v' w', MemX w0 w' (txO v' [] :: B) → K v' w') :
    LiftP Try.prog (Instr.buildSlice 50 0 #[]) K w := by
  refine E.bs0 undSs szSt ?_
  obtain ⟨c, h1, h2⟩ := h.make
  have hb : Below w.heap.size w (w.alloc (.cells #[] 9)) := (Below.refl _ _).alloc (Nat.le_refl _) _
  refine k _ _ (h2 [txO (.slice (some ⟨w.heap.size, 0, none⟩) 0 0) []] _ ⟨col c w.heap.size 8, col_lt _ _ _, fun x hx => ?_, hb⟩)
  simp only [List.mem_cons, List.not_mem_nil, or_false] at hx
  subst hx
  refine ⟨fun b hb => ?_, Own.lit0 w 9⟩
  cases hb
  exact col_ge _ _ _ (Nat.le_refl _)
theorem MemX.app {K : Value → World → Prop} {w0 w : World} {B : List Ob9} {v x : Value} {l m : List Txt} (h : MemX w0 w (txO v l :: B)) (hd : ∀ x ∈ B, x.hu ≠ 8) (hr : Rd w x (m.map tS)) (hl : l.length + m.length ≤ 100000)
    (k : ∀ v' w', MemX w0 w' (txO v' (l ++ m) :: B) → K v' w') : NextP Try.prog (builtin .append #[50, 50] 50 #[false, false] #[v, x]) K w := by
  obtain ⟨d, ⟨h1, h2⟩, h3⟩ := h.one hd
  have ho : Own 9 w v (l.map tS) := by
    unfold Own
    rwa [List.length_map]
  refine apT undSs infSt (by rfl) (by decide) ho hr (fun u hu => ?_) (by rw [List.length_map, List.length_map]; omega) ?_
  · obtain ⟨t, _, rfl⟩ := List.mem_map.1 hu
    rfl
  intro v' w' ho' hbl hT
  refine k v' w' (h3 (txO v' (l ++ m)) w' ⟨col d w.heap.size 8, col_lt _ _ _, ⟨fun b hb => ?_, ?_⟩, hT.mono fun j _ e => h1 j e⟩)
  · rcases hbl with e | e
    · rw [e] at hb
      rw [col_lt _ _ _ b (ownsRow_lt h2 hb)]
      exact h1 b hb
    · rw [e] at hb
      cases hb
      exact col_ge _ _ _ (Nat.le_refl _)
  · rw [← List.map_append] at ho'
    unfold Own at ho'
    rwa [List.length_map] at ho'
structure PlV (l : List ActT) (i : Nat) (M : VmT) (dn : List Txt) (su si : Nat) : Prop where
  ex : ∃ d0, dn = d0 ++ (M.a ++ M.b) ∧ M.base = allV d0
  ok : VmOk M
  rm : M.room = 4194304
  su : su + M.b.length = dn.length
  si : si = (M.a ++ M.b).length
  n : 0 ≤ M.n ∧ M.n ≤ i
  m : 0 ≤ M.m ∧ M.m ≤ i
  sz : (allV dn).length ≤ sizes (l.take i) + i
  len : dn.length ≤ i
section
variable {l : List ActT} {i : Nat} {M : VmT} {dn : List Txt} {su si : Nat}
theorem PlV.s (h : PlV l i M dn su si) : M.s = allV dn := by
  obtain ⟨d0, e1, e2⟩ := h.ex
  unfold VmT.s
  rw [e1, e2, allV_append d0]
theorem sizes_mono (l : List ActT) (i : Nat) : sizes (l.take i) ≤ sizes (l.take (i + 1)) := by
  by_cases hi : i < l.length
  · rw [sizes_take l i hi]; omega
  · rw [List.take_of_length_le (by omega), List.take_of_length_le (by omega)]; omega
theorem PlV.up (h : PlV l i M dn su si) : PlV l (i + 1) M dn su si := by
  have := h.n
  have := h.m
  have := h.sz
  have := h.len
  have := sizes_mono l i
  exact ⟨h.ex, h.ok, h.rm, h.su, h.si, by omega, by omega, by omega, by omega⟩
theorem PlV.lens (h : PlV l i M dn su si) : (M.a ++ M.b).length ≤ dn.length := by
  obtain ⟨d0, e1, _⟩ := h.ex
  have := congrArg List.length e1
  rw [List.length_append] at this
  omega
theorem PlV.do_ (h : PlV l i M dn su si) (hi : i < l.length) (hl : l.length ≤ 60) (hz : sizes l ≤ 4000) : PlV l (i + 1) (M.do_ (cmdT l[i])) (dn ++ [cmdT l[i]]) su (si + 1) := by
  have h1 := h.n
  have h2 := h.m
  have h3 := h.sz
  have h4 := h.len
  have h5 := sizes_take l i hi
  have h6 := sizes_le l (i + 1)
  have h7 := h.lens
  have h8 := h.s
  have e : (M.do_ (cmdT l[i])).a ++ (M.do_ (cmdT l[i])).b = M.a ++ M.b ++ [cmdT l[i]] := by simp [VmT.do_]
  refine ⟨?_, h.ok.do_ _ (by omega) (by rw [h8]; omega) (by omega) (by omega), h.rm, ?_, ?_, by show 0 ≤ M.n + 1 ∧ M.n + 1 ≤ _; omega, by show 0 ≤ M.m + 1 ∧ M.m + 1 ≤ _; omega, ?_, ?_⟩
  · obtain ⟨d0, e1, e2⟩ := h.ex
    exact ⟨d0, by rw [e, e1]; simp [List.append_assoc], e2⟩
  · have := h.su
    show su + (M.b ++ [cmdT l[i]]).length = _
    simp only [List.length_append, List.length_cons, List.length_nil]
    omega
  · rw [e, h.si]
    simp only [List.length_append, List.length_cons, List.length_nil]
    try omega
  · rw [allV_append, allV_one]
    simp only [List.length_append, List.length_cons, List.length_nil]
    omega
  · simp only [List.length_append, List.length_cons, List.length_nil]
    omega
theorem PlV.nofull (h : PlV l i M dn su si) (hi : i < l.length) (hl : l.length ≤ 60) (hz : sizes l ≤ 4000) : ¬ M.full (cmdT l[i]) := by
  have h3 := h.sz
  have h4 := h.len
  have h5 := sizes_take l i hi
  have h6 := sizes_le l (i + 1)
  have h7 := h.lens
  have h8 := h.s
  have h9 := M.slen
  rw [h8] at h9
  have hr := h.rm
  unfold VmT.full
  rw [VmT.used, hr]
  split <;> omega
theorem PlV.noset (h : PlV l i M dn su si) (hi : i < l.length) (hl : l.length ≤ 60) (hz : sizes l ≤ 4000) : ¬ M.room < M.s.length + 9 := by
  have h3 := h.sz
  have h6 := sizes_le l i
  rw [h.s, h.rm]
  omega
theorem PlV.sync (h : PlV l i M dn su si) : PlV l (i + 1) M.sync dn dn.length si := by
  have h0 := h.up
  have e : M.sync.a ++ M.sync.b = M.a ++ M.b := by simp [VmT.sync]
  exact ⟨by rw [e]; exact h.ex, h.ok.sync, h.rm, rfl, by rw [e]; exact h.si, h0.n, h0.m, h0.sz, h0.len⟩
theorem PlV.settle (h : PlV l i M dn su si) : PlV l (i + 1) M.settle dn dn.length 0 := by
  have h0 := h.up
  exact ⟨⟨dn, by simp [VmT.settle], h.s⟩, h.ok.settle, h.rm, rfl, rfl, h0.n, h0.m, h0.sz, h0.len⟩
theorem allV_take (l : List Txt) (k : Nat) : (allV (l.take k)).length ≤ (allV l).length := by
  have e : allV l = allV (l.take k) ++ allV (l.drop k) := by rw [← allV_append, List.take_append_drop]
  rw [e, List.length_append]; omega
theorem keepN_le (keep : Int) (b : List Txt) : keepN keep b ≤ b.length := by unfold keepN; omega
theorem PlV.crash (h : PlV l i M dn su si) (hl : i < 1000) (keep : Int) : PlV l (i + 1) (M.crash keep) (dn.take (su + keepN keep M.b)) (su + keepN keep M.b) ((M.crash keep).a.length) ∧ (((M.crash keep).a.length : Nat) : Int) = (si : Int) - ((dn.length : Int) - ((su + keepN keep M.b : Nat) : Int)) := by
  have h0 := h.up
  have hk := keepN_le keep M.b
  have hsu := h.su
  have hsi := h.si
  have hln := h.lens
  have h4 := h.len
  have e : (M.crash keep).a ++ (M.crash keep).b = M.a ++ M.b.take (keepN keep M.b) := by simp [VmT.crash]
  have ea : (M.crash keep).a = M.a ++ M.b.take (keepN keep M.b) := rfl
  have ed : (dn.take (su + keepN keep M.b)).length = su + keepN keep M.b := by rw [List.length_take]; omega
  have el : (M.a ++ M.b.take (keepN keep M.b)).length = M.a.length + keepN keep M.b := by rw [List.length_append, List.length_take]; omega
  rw [List.length_append] at hsi hln
  refine ⟨⟨?_, h.ok.crash keep, h.rm, by show su + keepN keep M.b + 0 = _; rw [ed]; rfl, by rw [e, ea], ?_, ?_, ?_, by rw [ed]; omega⟩, by rw [ea, el]; omega⟩
  · obtain ⟨d0, e1, e2⟩ := h.ex
    have hd0 : d0.length + (M.a.length + M.b.length) = dn.length := by rw [e1]; simp
    refine ⟨d0, ?_, e2⟩
    rw [e, e1, List.take_append, List.take_of_length_le (by omega), List.take_append, List.take_of_length_le (show M.a.length ≤ su + keepN keep M.b - d0.length by omega)]
    rw [show su + keepN keep M.b - d0.length - M.a.length = keepN keep M.b by omega]
  · show 0 ≤ (((M.a ++ M.b.take (keepN keep M.b)).length : Nat) : Int) ∧ (((M.a ++ M.b.take (keepN keep M.b)).length : Nat) : Int) ≤ _
    rw [el]; omega
  · show 0 ≤ (((M.a ++ M.b.take (keepN keep M.b)).length : Nat) : Int) ∧ (((M.a ++ M.b.take (keepN keep M.b)).length : Nat) : Int) ≤ _
    rw [el]; omega
  · exact Nat.le_trans (allV_take _ _) h0.sz
theorem plv0 (l : List ActT) : PlV l 0 (vm0 4194304) [] 0 0 := ⟨⟨[], rfl, rfl⟩, vm0_ok _ (by omega), rfl, rfl, rfl, by dsimp only [vm0]; decide, by dsimp only [vm0]; decide, by simp [allV], by simp⟩
end
set_option maxHeartbeats 4000000 in
theorem VaultPlays5 (v : Value) (l : List ActT) (w : World) (hv : Acts w [v] l) : CallP Try.prog 5 #[v] (fun r w' => r = .bool true ∧ Below w.heap.size w w') w := by
  obtain ⟨A, cc, rfl, hcc, hcm⟩ := hv.slice
  refine ⟨S5.calls _ _ _ ?_⟩
  unfold S5
  refine (awake7 w).mono ?_
  rintro _ wa ⟨rfl, hba⟩
  (repeat with_reducible first|refine z_c ?_|refine z_E ?_)
  simp only [Bool.not_true]
  skip
  refine (light15 _ l wa (keeps_Acts _ _ _ _ hba hv)).mono ?_
  rintro _ _ ⟨b, rfl, hlt, rfl⟩
  refine bi_not ?_
  cases b with
  | false =>
    simp only [Bool.not_false]
    (repeat with_reducible first|refine z_b ?_)
    exact ⟨by first | rfl | trivial, hba⟩
  | true =>
  obtain ⟨hl, hz⟩ := hlt rfl
  simp only [Bool.not_true]
  (repeat with_reducible first|refine z_c ?_)
  have hMa := (MemX.nil w).below hba
  refine (vnew (h := 1) hMa (by omega) 4194304 (by omega)).mono ?_
  rintro _ w1 ⟨gd, rfl, hM1⟩
  (repeat with_reducible first|refine z_A ?_|refine z_B ?_)
  refine (vopen0 4194304 (by omega) hM1 (by simp)).mono ?_
  rintro _ w2 ⟨g, gt, rfl, hM2⟩
  (repeat with_reducible first|refine z_A ?_|refine z_B ?_)
  refine ofPR (pr_pnil undVp) ?_
  simp only [Option.isNone_some]
  (repeat with_reducible first|refine z_c ?_)
  have hM2 := hM2.tx0.sw
  refine LoopP.invL (fun vs w' => ∃ (i su si g gt : Nat) (M : VmT) (dn : List Txt) (dv : Value), i ≤ l.length ∧ vs = [.pointer (some ⟨g, 0, none⟩), .pointer (some ⟨gt, 0, none⟩), dv, .int .i64 su, .int .i64 si, .int .i64 i] ∧ PlV l i M dn su si ∧ MemX w w' [vlO 1 g gd gt M.v (by omega), txO dv dn]) (fun vs => l.length - (intOf (vs.tail.tail.tail.tail.tail.headD undef)).toNat) ⟨0, 0, 0, g, gt, vm0 4194304, [], _, by omega, rfl, plv0 l, hM2⟩ ?_
  clear hM2 hM1 hMa hba
  rintro _ w3 ⟨i, su, si, g, gt, M, dn, dv, hi, rfl, hP, hM⟩ J hJ
  dsimp only [List.headD_cons, List.tail_cons]
  refine ln undAs ?_
  by_cases hlt : i < l.length
  rotate_left
  · refine bi_lss_f (by omega) ?_
    (repeat with_reducible first|refine z_c ?_)
    exact ⟨by first | rfl | trivial, hM.bel⟩
  refine bi_lss_t (by omega) ?_
  (repeat with_reducible first|refine z_b ?_)
  obtain ⟨a, rfl, ha⟩ := act_at hv i hlt
  have hlen := hP.len
  have hsz := hP.sz
  have hsl := sizes_le l i
  refine JoinP.cut (fun vs w' => ∃ (su si g gt : Nat) (M : VmT) (dn : List Txt) (dv : Value), vs = [.pointer (some ⟨g, 0, none⟩), .pointer (some ⟨gt, 0, none⟩), dv, .int .i64 su, .int .i64 si] ∧ PlV l (i + 1) M dn su si ∧ MemX w w' [vlO 1 g gd gt M.v (by omega), txO dv dn]) (fun J1 hJ1 => ?_) ?_
  · refine ixN undAs szAc i hlt ?_
    refine fdA ac0 (by decide) ?_
    refine ld one3 (ha.c0 _ hM.bel) ?_
    refine bi_eql_c (fun k1 => ?_) (fun k1 => ?_)
    · (repeat with_reducible first|refine z_a ?_|refine z_b ?_)
      have hT := vtape hM (List.mem_cons_self ..)
      have c0 := hT.cell 0
      (repeat with_reducible first|refine fd t0 (by decide) ?_)
      refine ld oneT c0 ?_
      refine lnT undT ?_
      refine ixN undAs szAc i hlt ?_
      refine fdA ac1 (by decide) ?_
      refine ld oneT (ha.c1 _ hM.bel) ?_
      refine (vdo hM (by simp [txO]) hP.ok (cmdT l[i]) (by have := sizes_take l i hlt; have := sizes_le l (i + 1); omega)).mono ?_
      rintro _ w4 ⟨rfl, hM4⟩
      have nf := hP.nofull hlt hl hz
      rw [if_neg nf] at hM4
      rw [if_neg nf, if_neg nf]
      (repeat with_reducible first|refine z_d ?_|refine z_t (by omega) ?_|refine z_A ?_|refine z_B ?_)
      have hms : M.v.s.length = M.s.length := rfl
      rw [hms]
      have hss : M.s.length ≤ 20000 := hP.ok.size
      refine (Digits20 M.s.length w4 (by omega)).mono ?_
      rintro _ _ ⟨rfl, rfl⟩
      refine gdY ?_
      refine tl_neq_f (fun h => h rfl) ?_
      (repeat with_reducible first|refine z_c ?_|refine z_l ?_)
      refine ixN undAs szAc i hlt ?_
      refine fdA ac1 (by decide) ?_
      refine ld oneT (ha.c1 _ hM4.bel) ?_
      refine hM4.sw.push (by simp [vlO]) (by omega) (cmdT l[i]) ?_
      intro v5 w5 hM5
      have := hP.lens
      have := hP.si
      (repeat with_reducible first|refine z_o (by omega) ?_)
      exact hJ1 _ _ ⟨su, si + 1, g, gt, _, _, v5, by simp, hP.do_ hlt hl hz, hM5.sw⟩
    (repeat with_reducible first|refine z_c ?_)
    refine bi_eql_c (fun k2 => ?_) (fun k2 => ?_)
    · (repeat with_reducible first|refine z_b ?_)
      refine (vsync hM (by simp [txO]) hP.ok).mono ?_
      rintro _ w4 ⟨rfl, hM4⟩
      (repeat with_reducible first|refine z_c ?_|refine z_t (by omega) ?_)
      obtain ⟨A1, c1, rfl, _⟩ := (hM4.txt (List.mem_cons_of_mem _ (List.mem_cons_self ..))).slice
      rw [List.length_map] at hM4 ⊢
      refine ln undSs ?_
      exact hJ1 _ _ ⟨dn.length, si, g, gt, _, dn, _, rfl, hP.sync, hM4⟩
    (repeat with_reducible first|refine z_c ?_)
    refine bi_eql_c (fun k3 => ?_) (fun k3 => ?_)
    · (repeat with_reducible first|refine z_b ?_)
      refine (vsettle hM (by simp [txO]) hP.ok).mono ?_
      rintro _ w4 ⟨rfl, hM4⟩
      have nf := hP.noset hlt hl hz
      rw [if_neg nf] at hM4
      rw [if_neg nf]
      (repeat with_reducible first|refine z_c ?_|refine z_t (by omega) ?_)
      obtain ⟨A1, c1, rfl, _⟩ := (hM4.txt (List.mem_cons_of_mem _ (List.mem_cons_self ..))).slice
      rw [List.length_map] at hM4 ⊢
      refine ln undSs ?_
      exact hJ1 _ _ ⟨dn.length, 0, g, gt, _, dn, _, rfl, hP.settle, hM4⟩
    (repeat with_reducible first|refine z_c ?_)
    refine bi_eql_c (fun k4 => ?_) (fun k4 => ?_)
    rotate_left
    · (repeat with_reducible first|refine z_c ?_)
      exact hJ1 _ _ ⟨su, si, g, gt, M, dn, dv, rfl, hP.up, hM⟩
    (repeat with_reducible first|refine z_b ?_)
    refine ixN undAs szAc i hlt ?_
    refine fdA ac2 (by decide) ?_
    refine ld one3 (ha.c2 _ hM.bel) ?_
    refine mxI ?_
    have hrd := hM.txt (List.mem_cons_of_mem _ (List.mem_cons_self ..))
    obtain ⟨A1, c1, rfl, hc1, _⟩ := hrd.slice
    rw [List.length_map] at hM hrd hc1 ⊢
    have hsu := hP.su
    have hkb := keepN_le l[i].2.2.1 M.b
    have hke : min (max l[i].2.2.1 0) ((dn.length : Int) - (su : Int)) = ((keepN l[i].2.2.1 M.b : Nat) : Int) := by unfold keepN; omega
    refine ln undSs ?_
    (repeat with_reducible first|refine z_p (by omega) ?_)
    refine mnI ?_
    rw [hke]
    (repeat with_reducible first|refine z_o (by omega) ?_)
    refine ln undSs ?_
    obtain ⟨hP4, hq⟩ := hP.crash (by omega) l[i].2.2.1
    have hsi := hP.si
    have hln := hP.lens
    (repeat with_reducible first|refine z_p (by omega) ?_)
    have e5 : (su : Int) + ((keepN l[i].2.2.1 M.b : Nat) : Int) = ((su + keepN l[i].2.2.1 M.b : Nat) : Int) := by omega
    rw [e5, ← hq]
    refine hM.bs0 ?_
    intro v5 w5 hM5
    refine ct undSs szSt (hM5.txt (List.mem_cons_of_mem _ (List.mem_cons_of_mem _ (List.mem_cons_self ..)))) .no (.at _ (su + keepN l[i].2.2.1 M.b)) (by omega) (by rw [List.length_map]; omega) ?_
    intro v6 hv6
    rw [List.drop_zero, ← List.map_take] at hv6
    have hM6 : MemX w w5 [txO v5 [], vlO 1 g gd gt M.v (by omega)] := hM5.sub fun x hx => by
      simp only [List.mem_cons, List.not_mem_nil, or_false] at hx ⊢
      rcases hx with h | h <;> simp [h]
    refine hM6.app (by simp [vlO]) hv6 (by rw [List.length_take]; simp; omega) ?_
    intro v7 w7 hM7
    have hM7 := hM7.sw
    have hdr : Below w7.heap.size w7 w7.drew := (Below.refl _ _).drew
    have hbd := below_then hM7.bel hdr
    refine draw (Below w.heap.size w) hbd ?_
    refine yixA undAs szAc i hlt ?_
    refine yfdA ac2 (by decide) ?_
    refine yl1 one3 ha.c2 ?_
    refine yixA undAs szAc i hlt ?_
    refine yfdA ac3 (by decide) ?_
    refine yl1 one3 ha.c3 ?_
    have hM7 := hM7.below hdr
    refine (vcrash hM7 (by simp [txO]) hP.ok l[i].2.2.1 l[i].2.2.2.1).mono ?_
    rintro _ w8 ⟨rfl, hM8⟩
    refine (vopen hM8 (by simp [txO]) hP.ok).mono ?_
    rintro _ w9 ⟨g', gt', rfl, hM9⟩
    (repeat with_reducible first|refine z_A ?_|refine z_B ?_)
    refine ofPR (pr_pnil undVp) ?_
    simp only [Option.isNone_some]
    (repeat with_reducible first|refine z_d ?_)
    refine (vcount hM9 (List.mem_cons_self ..)).mono ?_
    rintro _ _ ⟨rfl, rfl⟩
    have hcm : (M.crash l[i].2.2.1).v.m = (((M.crash l[i].2.2.1).a.length : Nat) : Int) := rfl
    rw [hcm]
    (repeat with_reducible first|refine z_c ?_|refine z_d ?_|refine z_l ?_|refine z_t (by omega) ?_)
    exact hJ1 _ _ ⟨_, _, g', gt', _, _, v7, rfl, hP4, hM9⟩
  · rintro _ w4 ⟨su, si, g, gt, M, dn, dv, rfl, hP, hM⟩
    dsimp only [List.headD_cons, List.tail_cons]
    have hT := vtape hM (List.mem_cons_self ..)
    have hdr : Below w4.heap.size w4 w4.drew := (Below.refl _ _).drew
    have q0 : ∀ w', Below w4.heap.size w4 w' → w'.cell? ⟨gt, 0, none⟩ = some (tS M.s) := fun w' hb => (hT.below' hb).cell 0
    have hlen := hP.len
    have hsz := hP.sz
    have hsl := sizes_le l (i + 1)
    refine draw (Below w4.heap.size w4) hdr ?_
    (repeat with_reducible first|refine yfd t0 (by decide) ?_|refine z_W ?_)
    refine yl1 oneT q0 ?_
    have hMd := hM.below hdr
    refine act ?_
    refine (All21 dv dn w4.drew (hMd.txt (List.mem_cons_of_mem _ (List.mem_cons_self ..))) (by omega)).mono ?_
    rintro _ _ ⟨rfl, rfl⟩
    refine ⟨_, hdr, fun _ h => h, ?_⟩
    refine ty_neq_f (fun h => h hP.s) ?_
    (repeat with_reducible first|refine z_d ?_)
    obtain ⟨A1, c1, rfl, _⟩ := (hMd.txt (List.mem_cons_of_mem _ (List.mem_cons_self ..))).slice
    rw [List.length_map] at hM hMd ⊢
    (repeat with_reducible first|refine yln undSs ?_|refine z_d ?_)
    have hw : M.v.d.waits.length = M.b.length := by show (M.b.map Frame.wrap).length = _; rw [List.length_map]
    have hsu := hP.su
    by_cases h0 : M.b.length = 0
    · refine yi_eql_t (by omega) ?_
      refine gaY ?_
      refine act ?_
      refine (vsure hMd (List.mem_cons_self ..)).mono ?_
      rintro _ _ ⟨rfl, rfl⟩
      refine ⟨_, hdr, fun _ h => h, ?_⟩
      rw [hw, decide_eq_true h0]
      (repeat with_reducible first|refine z_d ?_)
      refine yi_bneq und4b ?_
      simp only [ne_eq, not_true, decide_false]
      (repeat with_reducible first|refine z_c ?_|refine z_l ?_)
      (repeat with_reducible first|refine z_o (by omega) ?_)
      rw [show (i : Int) + 1 = ((i + 1 : Nat) : Int) by omega]
      exact hJ _ _ ⟨i + 1, su, si, g, gt, M, dn, _, by omega, rfl, hP, hMd⟩ (by show l.length - ((i + 1 : Nat) : Int).toNat < l.length - (i : Int).toNat; omega)
    · refine yi_eql_f (by omega) ?_
      refine gaY ?_
      refine act ?_
      refine (vsure hMd (List.mem_cons_self ..)).mono ?_
      rintro _ _ ⟨rfl, rfl⟩
      refine ⟨_, hdr, fun _ h => h, ?_⟩
      rw [hw, decide_eq_false h0]
      (repeat with_reducible first|refine z_d ?_)
      refine yi_bneq und4b ?_
      simp only [ne_eq, not_true, decide_false]
      (repeat with_reducible first|refine z_c ?_|refine z_l ?_)
      (repeat with_reducible first|refine z_o (by omega) ?_)
      rw [show (i : Int) + 1 = ((i + 1 : Nat) : Int) by omega]
      exact hJ _ _ ⟨i + 1, su, si, g, gt, M, dn, _, by omega, rfl, hP, hMd⟩ (by show l.length - ((i + 1 : Nat) : Int).toNat < l.length - (i : Int).toNat; omega)
end Go.Proofs.Ytadbpelpbaikiaa.E
