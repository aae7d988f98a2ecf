import Derived.Test.YtadbpelpbaikiaaMf
namespace Go.Proofs.Ytadbpelpbaikiaa.E
open Go Go.RowKit
set_option linter.unusedSimpArgs false
set_option linter.unusedVariables false

def dT (x : ByteArray) : Txt := x.data.toList
def bulk (l : List ByteArray) : Nat := (l.map fun x => 1 + (dT x).length).sum
def bulkM (l : List ByteArray) : Nat := (l.map fun x => 1 + min (dT x).length 3000).sum
theorem bulk_take (l : List ByteArray) (i : Nat) (hi : i < l.length) : bulk (l.take (i + 1)) = bulk (l.take i) + (1 + (dT l[i]).length) := by
  unfold bulk
  rw [List.take_succ_eq_append_getElem hi, List.map_append, List.sum_append]
  simp
theorem bulkM_take (l : List ByteArray) (i : Nat) (hi : i < l.length) : bulkM (l.take (i + 1)) = bulkM (l.take i) + (1 + min (dT l[i]).length 3000) := by
  unfold bulkM
  rw [List.take_succ_eq_append_getElem hi, List.map_append, List.sum_append]
  simp
theorem bulkM_le : ∀ (l : List ByteArray), bulkM l ≤ 3000 → bulk l = bulkM l := by
  intro s
  induction s with
  | nil => intro _; rfl
  | cons y s ih =>
    intro hs
    have f1 : bulkM (y :: s) = 1 + min (dT y).length 3000 + bulkM s := by simp [bulkM]
    have f2 : bulk (y :: s) = 1 + (dT y).length + bulk s := by simp [bulk]
    have := ih (by omega)
    omega
theorem bulk_le (l : List ByteArray) (i : Nat) : bulk (l.take i) ≤ bulk l := by
  have := List.take_append_drop i l
  have e : bulk l = bulk (l.take i) + bulk (l.drop i) := by
    unfold bulk
    conv => lhs; rw [← this]
    rw [List.map_append, List.sum_append]
  omega
theorem str_at {w0 : World} {A : Option Addr} {n c : Nat} {l : List ByteArray} (h : Strs w0 [.slice A n c] l) (i : Nat) (hi : i < l.length) : ∃ a, A = some a ∧ ∀ w', Below w0.heap.size w0 w' → w'.cell? (a.add i) = some (tS (dT l[i])) := by
  obtain ⟨a, us, rfl, hus, hcell, hrd, _⟩ := rRow.at h i hi
  refine ⟨a, rfl, fun w' hb => ?_⟩
  have h0 := hcell 0 (.string l[i]) (by rw [hrd]; rfl)
  rw [Nat.mul_one] at h0
  have h1 : (a.add i).add 0 = a.add i := rfl
  rw [h1, tS_of] at h0
  rw [hb.cell (World.block_lt_of_cell? _ _ h0)]
  exact h0
theorem keeps_Strs : Keeps Strs := keeps_Row keeps_S
theorem Bulk23 (v : Value) (l : List ByteArray) (w : World) (hv : Strs w [v] l) : CallP Try.prog 23 #[v, .int .i64 3000] (fun r w' => ∃ n : Nat, r = .int .i64 n ∧ (n ≤ 3000 → bulk l ≤ 3000) ∧ w' = w) w := by
  obtain ⟨A, c, rfl, hc, hm⟩ := hv.slice
  refine ⟨S23.calls _ _ _ _ ?_⟩
  unfold S23
  refine LoopP.inv2 (fun nv iv w' => ∃ i : Nat, i ≤ l.length ∧ iv = .int .i64 i ∧ nv = .int .i64 (bulkM (l.take i) : Nat) ∧ bulkM (l.take i) ≤ 6001 ∧ w' = w) (fun _ iv _ => l.length - (intOf iv).toNat) ⟨0, by omega, rfl, rfl, by simp [bulkM], rfl⟩ ?_
  rintro _ _ _ ⟨i, hi, rfl, rfl, hn, rfl⟩ J hJ
  dsimp only [List.headD_cons, List.tail_cons]
  refine ln undSs ?_
  by_cases hlt : i < l.length
  · refine bi_lss_t (by omega) ?_
    (repeat with_reducible first|refine z_d ?_)
    by_cases h4 : bulkM (l.take i) ≤ 3000
    · refine bi_leq_t (by omega) ?_
      (repeat with_reducible first|refine z_b ?_|refine z_k ?_|refine z_o (by omega) ?_)
      obtain ⟨a, rfl, ha⟩ := str_at hv i hlt
      refine ix1 undSs szSt hlt ?_
      refine ld oneT (ha _ (Below.refl _ _)) ?_
      refine lnT undT ?_
      refine mnI ?_
      have hst := bulkM_take l i hlt
      rw [show min ((dT l[i]).length : Int) 3000 = ((min (dT l[i]).length 3000 : Nat) : Int) by omega]
      (repeat with_reducible first|refine z_o (by omega) ?_)
      have e : (bulkM (l.take i) : Int) + 1 + ((min (dT l[i]).length 3000 : Nat) : Int) = ((bulkM (l.take (i + 1)) : Nat) : Int) := by rw [hst]; omega
      rw [e, show (i : Int) + 1 = ((i + 1 : Nat) : Int) by omega]
      exact hJ _ _ _ ⟨i + 1, by omega, rfl, rfl, by rw [hst]; omega, rfl⟩ (by show l.length - ((i + 1 : Nat) : Int).toNat < l.length - (i : Int).toNat; omega)
    · refine bi_leq_f (by omega) ?_
      (repeat with_reducible first|refine z_c ?_|refine z_k ?_)
      exact ⟨_, rfl, fun e => absurd e h4, rfl⟩
  · have : i = l.length := by omega
    subst this
    rw [List.take_length] at hn ⊢
    refine bi_lss_f (by omega) ?_
    (repeat with_reducible first|refine z_c ?_|refine z_e ?_|refine z_l ?_)
    exact ⟨_, rfl, fun e => by rw [bulkM_le l e]; exact e, rfl⟩
theorem vused {w0 w : World} {h g gd gt : Nat} {hp : 0 < h ∧ h < 999} {V : VsT} {L : List Ob9} (hM : MemX w0 w L) (hm : vlO h g gd gt V hp ∈ L) (hs : V.d.small) :
    CallP Try.prog 24 #[.pointer (some ⟨gd, 0, none⟩)] (fun r w' => r = .int .i64 V.d.used ∧ MemX w0 w' L) w := by
  obtain ⟨c, _, h2⟩ := hM.look
  obtain ⟨cd, _, hD, _⟩ := h2 _ hm
  refine (Used_spec cd w gd V.d hD hs).mono ?_
  rintro r w' ⟨rfl, hb⟩
  exact ⟨rfl, hM.below hb⟩
theorem vend {w0 w : World} {h g gd gt : Nat} {hp : 0 < h ∧ h < 999} {M : VmT} {B : List Ob9} (hM : MemX w0 w (vlO h g gd gt M.v hp :: B)) (hd : ∀ x ∈ B, x.hu ≠ h) (hok : VmOk M) (hb : M.b = []) :
    CallP Try.prog 12 #[.pointer (some ⟨gd, 0, none⟩), .int .i64 0, .int .i64 0] (fun _ w1 => CallP Try.prog 16 #[.pointer (some ⟨gd, 0, none⟩)] (fun r w' => ∃ (g' gt' : Nat) (M' : VmT), r = .tuple #[.pointer (some ⟨g', 0, none⟩), .pointer (some ⟨gt', 0, none⟩)] ∧ MemX w0 w' (vlO h g' gd gt' M'.v hp :: B) ∧ M'.s = M.s) w1) w := by
  refine (vcrash hM hd hok 0 0).mono ?_
  rintro _ w1 ⟨_, hM1⟩
  refine (vopen hM1 hd hok).mono ?_
  rintro _ w2 ⟨g', gt', rfl, hM2⟩
  exact ⟨g', gt', M.crash 0, rfl, hM2, by simp [VmT.crash, VmT.s, hb]⟩
def vmF (room : Nat) (dn : List Txt) : VmT := ⟨room, false, [], [], dn, dn.length, dn.length⟩
theorem vmF_do (room : Nat) (dn : List Txt) (c : Txt) : (vmF room dn).do_ c = vmF room (dn ++ [c]) := by simp [VmT.do_, vmF]
theorem vmF_s (room : Nat) (dn : List Txt) : (vmF room dn).s = allV dn := rfl
theorem vmF_ok {room : Nat} {dn : List Txt} (hr : room ≤ 4194304) (hs : (allV dn).length ≤ 3000) (hn : dn.length ≤ 30) : VmOk (vmF room dn) := by
  have hl := allV_len dn
  refine ⟨fun _ => rfl, fun c hc => ?_, by rw [vmF_s]; omega, by show ([] ++ dn).length ≤ 1000; rw [List.nil_append]; omega, hr, by show -1000 ≤ ((dn.length : Nat) : Int) ∧ ((dn.length : Nat) : Int) ≤ 1000; omega, by show -1000 ≤ ((dn.length : Nat) : Int) ∧ ((dn.length : Nat) : Int) ≤ 1000; omega⟩
  have hc : c ∈ dn := hc
  have := (List.sublist_flatten_of_mem hc).length_le
  omega
set_option maxHeartbeats 4000000 in
theorem VaultFull6 (room : Int) (v : Value) (l : List ByteArray) (w : World) (hv : Strs w [v] l) : CallP Try.prog 6 #[.int .i64 room, v] (fun r w' => r = .bool true ∧ Below w.heap.size w w') w := by
  have hv0 := hv
  obtain ⟨A, cc, rfl, hcc, hcm⟩ := hv.slice
  refine ⟨S6.calls _ _ _ _ ?_⟩
  unfold S6
  refine (awake7 w).mono ?_
  rintro _ wa ⟨rfl, hba⟩
  (repeat with_reducible first|refine z_c ?_|refine z_E ?_)
  simp only [Bool.not_true]
  skip
  refine ln undSs ?_
  refine bi_gtr_c (fun h30 => ?_) (fun h30 => ?_)
  · (repeat with_reducible first|refine z_b ?_|refine z_f ?_|refine z_k ?_)
    exact ⟨by first | rfl | trivial, hba⟩
  have hl : l.length ≤ 30 := by omega
  (repeat with_reducible first|refine z_d ?_)
  refine (Bulk23 _ l wa (keeps_Strs _ _ _ _ hba hv)).mono ?_
  rintro _ _ ⟨n, rfl, hbk, rfl⟩
  refine gdY ?_
  refine bi_gtr_c (fun h3 => ?_) (fun h3 => ?_)
  · (repeat with_reducible first|refine z_b ?_|refine z_f ?_|refine z_k ?_|refine z_l ?_)
    exact ⟨by first | rfl | trivial, hba⟩
  have hz := hbk (by omega)
  (repeat with_reducible first|refine z_d ?_|refine z_l ?_)
  refine bi_lss_c (fun hr0 => ?_) (fun hr0 => ?_)
  · (repeat with_reducible first|refine z_b ?_|refine z_f ?_|refine z_k ?_|refine z_l ?_)
    exact ⟨by first | rfl | trivial, hba⟩
  (repeat with_reducible first|refine z_d ?_|refine z_l ?_)
  refine bi_gtr_c (fun hr1 => ?_) (fun hr1 => ?_)
  · (repeat with_reducible first|refine z_b ?_|refine z_l ?_)
    exact ⟨by first | rfl | trivial, hba⟩
  (repeat with_reducible first|refine z_c ?_|refine z_l ?_)
  obtain ⟨rm, rfl⟩ : ∃ rm : Nat, room = rm := ⟨room.toNat, by omega⟩
  have hrm : rm ≤ 5000 := by omega
  have hMa := (MemX.nil w).below hba
  refine (vnew (h := 1) hMa (by omega) rm (by omega)).mono ?_
  rintro _ w1 ⟨gd, rfl, hM1⟩
  (repeat with_reducible first|refine z_A ?_|refine z_B ?_)
  refine (vopen0 rm (by omega) hM1 (by simp)).mono ?_
  rintro _ w2 ⟨g, gt, rfl, hM2⟩
  (repeat with_reducible first|refine z_A ?_|refine z_B ?_)
  refine ofPR (pr_pnil undVp) ?_
  simp only [Option.isNone_some]
  (repeat with_reducible first|refine z_c ?_)
  have hM2 := hM2.tx0.sw
  refine LoopP.invL (fun vs w' => ∃ (i : Nat) (dn : List Txt) (dv : Value), i ≤ l.length ∧ vs = [dv, .int .i64 i] ∧ dn.length ≤ i ∧ (allV dn).length ≤ bulk (l.take i) ∧ MemX w w' [vlO 1 g gd gt (vmF rm dn).v (by omega), txO dv dn]) (fun vs => l.length - (intOf (vs.tail.headD undef)).toNat) ⟨0, [], _, by omega, rfl, by simp, by simp [allV], hM2⟩ ?_
  clear hM2 hM1 hMa hba
  rintro _ w3 ⟨i, dn, dv, hi, rfl, hn, hs, hM⟩ J hJ
  have hbl := bulk_le l i
  have hok : VmOk (vmF rm dn) := vmF_ok (by omega) (by omega) (by omega)
  dsimp only [List.headD_cons, List.tail_cons]
  refine ln undSs ?_
  by_cases hlt : i < l.length
  · refine bi_lss_t (by omega) ?_
    (repeat with_reducible first|refine z_b ?_)
    obtain ⟨a, rfl, ha⟩ := str_at hv0 i hlt
    have hbt := bulk_take l i hlt
    have hbl1 := bulk_le l (i + 1)
    refine ix1 undSs szSt hlt ?_
    refine ld oneT (ha _ hM.bel) ?_
    refine (vdo hM (by simp [txO]) hok (dT l[i]) (by omega)).mono ?_
    rintro _ w4 ⟨rfl, hM4⟩
    (repeat with_reducible first|refine z_A ?_|refine z_B ?_)
    refine JoinP.cut (fun vs w' => ∃ (dn : List Txt) (dv : Value), vs = [dv] ∧ dn.length ≤ i + 1 ∧ (allV dn).length ≤ bulk (l.take (i + 1)) ∧ MemX w w' [vlO 1 g gd gt (vmF rm dn).v (by omega), txO dv dn]) (fun J1 hJ1 => ?_) ?_
    · by_cases hf : (vmF rm dn).full (dT l[i])
      · rw [if_pos hf] at hM4
        rw [if_pos hf, if_pos hf]
        (repeat with_reducible first|refine z_c ?_|refine z_r (by omega) ?_)
        have hdr : Below w4.heap.size w4 w4.drew := (Below.refl _ _).drew
        have hbd := below_then hM4.bel hdr
        have hf' : rm < (vmF rm dn).d.used + (8 + (dT l[i]).length) := hf
        refine draw (Below w.heap.size w) hbd ?_
        (repeat with_reducible first|refine z_d ?_|refine z_e1 (by omega) ?_)
        refine ty_neq_f (fun h => h rfl) ?_
        (repeat with_reducible first|refine z_d ?_|refine z_l ?_|refine z_a1 (by omega) ?_)
        refine yixA undSs szSt i hlt ?_
        refine gdY ?_
        rw [Nat.mul_one]
        refine yl1 oneT ha ?_
        (repeat with_reducible first|refine ylnT undT ?_|refine z_d ?_|refine z_h ?_|refine z_a1 (by omega) ?_)
        try refine gaY ?_
        refine act ?_
        refine (vused (hM4.below hdr) (List.mem_cons_self ..) hok.small).mono ?_
        rintro _ w5 ⟨rfl, hM5⟩
        refine ⟨_, hM5.bel, fun _ h => h, ?_⟩
        refine gdY ?_
        refine yi_leq_f (by have hf2 : rm < (vmF rm dn).v.d.used + (8 + (dT l[i]).length) := hf; omega) ?_
        (repeat with_reducible first|refine z_c ?_|refine z_l ?_)
        skip
        exact hJ1 _ _ ⟨dn, dv, rfl, by omega, by omega, hM5⟩
      · rw [if_neg hf] at hM4
        rw [if_neg hf, if_neg hf]
        (repeat with_reducible first|refine z_b ?_|refine z_q (by omega) ?_)
        refine ix1 undSs szSt hlt ?_
        refine ld oneT (ha _ hM4.bel) ?_
        refine hM4.sw.push (by simp [vlO]) (by omega) (dT l[i]) ?_
        intro v5 w5 hM5
        refine hJ1 _ _ ⟨dn ++ [dT l[i]], v5, rfl, ?_, ?_, ?_⟩
        · simp only [List.length_append, List.length_cons, List.length_nil]; omega
        · rw [allV_append, allV_one]
          simp only [List.length_append, List.length_cons, List.length_nil]
          omega
        · rw [← vmF_do]
          exact hM5.sw
    · rintro _ w5 ⟨dn, dv, rfl, hn, hs, hM⟩
      dsimp only [List.headD_cons, List.tail_cons]
      have hT := vtape hM (List.mem_cons_self ..)
      have hdr : Below w5.heap.size w5 w5.drew := (Below.refl _ _).drew
      have q0 : ∀ w', Below w5.heap.size w5 w' → w'.cell? ⟨gt, 0, none⟩ = some (tS (allV dn)) := fun w' hb => (hT.below' hb).cell 0
      refine draw (Below w5.heap.size w5) hdr ?_
      (repeat with_reducible first|refine yfd t0 (by decide) ?_|refine yl1 oneT q0 ?_|refine z_W ?_)
      have hMd := hM.below hdr
      refine act ?_
      refine (All21 dv dn w5.drew (hMd.txt (List.mem_cons_of_mem _ (List.mem_cons_self ..))) (by omega)).mono ?_
      rintro _ _ ⟨rfl, rfl⟩
      refine ⟨_, hdr, fun _ h => h, ?_⟩
      refine ty_neq_f (fun h => h rfl) ?_
      (repeat with_reducible first|refine z_d ?_)
      obtain ⟨A1, c1, rfl, _⟩ := (hMd.txt (List.mem_cons_of_mem _ (List.mem_cons_self ..))).slice
      rw [List.length_map] at hM hMd ⊢
      (repeat with_reducible first|refine yln undSs ?_|refine z_h ?_)
      refine act ?_
      refine (vcount hMd (List.mem_cons_self ..)).mono ?_
      rintro _ _ ⟨rfl, rfl⟩
      refine ⟨_, hdr, fun _ h => h, ?_⟩
      have hm : (vmF rm dn).v.m = ((dn.length : Nat) : Int) := rfl
      rw [hm]
      (repeat with_reducible first|refine z_c ?_|refine z_d ?_|refine z_l ?_|refine z_e1 (by omega) ?_)
      (repeat with_reducible first|refine z_o (by omega) ?_)
      rw [show (i : Int) + 1 = ((i + 1 : Nat) : Int) by omega]
      exact hJ _ _ ⟨i + 1, dn, _, by omega, rfl, hn, hs, hMd⟩ (by show l.length - ((i + 1 : Nat) : Int).toNat < l.length - (i : Int).toNat; omega)
  refine bi_lss_f (by omega) ?_
  (repeat with_reducible first|refine z_c ?_)
  have hsl : (vmF rm dn).s = allV dn := vmF_s rm dn
  refine (vsettle hM (by simp [txO]) hok).mono ?_
  rintro _ w4 ⟨rfl, hM4⟩
  have hroom : (vmF rm dn).room = rm := rfl
  rw [hroom, hsl] at hM4
  rw [hroom, hsl]
  by_cases hf : rm < (allV dn).length + 9
  · rw [if_pos hf] at hM4
    rw [if_pos hf]
    (repeat with_reducible first|refine z_a ?_|refine z_d ?_|refine z_s (by omega) ?_|refine z_t (by omega) ?_)
    have hT := vtape hM4 (List.mem_cons_self ..)
    have c0 : w4.cell? ⟨gt, 0, none⟩ = some (tS (allV dn)) := by rw [← hsl, ← sync_s]; exact hT.cell 0
    (repeat with_reducible first|refine fd t0 (by decide) ?_|refine ld oneT c0 ?_|refine lnT undT ?_|refine z_d ?_|refine z_k ?_|refine z_l ?_|refine z_p (by omega) ?_|refine z_x (by omega) ?_)
    skip
    refine (vsure hM4 (List.mem_cons_self ..)).mono ?_
    rintro _ _ ⟨rfl, rfl⟩
    rw [decide_eq_true (show (vmF rm dn).sync.v.d.waits.length = 0 from rfl)]
    (repeat with_reducible first|refine z_c ?_|refine z_d ?_|refine z_l ?_|refine z_E ?_)
    try simp only [Bool.not_true]
    skip
    refine (vend hM4 (by simp [txO]) hok.sync rfl).mono ?_
    intro _ w5 h5
    refine h5.mono ?_
    rintro _ w6 ⟨g', gt', M', rfl, hM6, hs6⟩
    rw [sync_s, vmF_s] at hs6
    have hT := vtape hM6 (List.mem_cons_self ..)
    have hdr : Below w6.heap.size w6 w6.drew := (Below.refl _ _).drew
    have q0 : ∀ w', Below w6.heap.size w6 w' → w'.cell? ⟨gt', 0, none⟩ = some (tS (allV dn)) := fun w' hb => by rw [← hs6]; exact (hT.below' hb).cell 0
    (repeat with_reducible first|refine z_A ?_|refine z_B ?_)
    refine draw (Below w6.heap.size w6) hdr ?_
    refine yofPR (pr_pnot undVp) ?_
    simp only [Option.isSome_some]
    (repeat with_reducible first|refine yfd t0 (by decide) ?_|refine yl1 oneT q0 ?_|refine z_W ?_|refine z_d ?_|refine z_h ?_)
    have hMd := hM6.below hdr
    try refine gaY ?_
    refine act ?_
    refine (All21 dv dn w6.drew (hMd.txt (List.mem_cons_of_mem _ (List.mem_cons_self ..))) (by omega)).mono ?_
    rintro _ _ ⟨rfl, rfl⟩
    refine ⟨_, hdr, fun _ h => h, ?_⟩
    refine gdY ?_
    refine ty_eql_t rfl ?_
    (repeat with_reducible first|refine z_k ?_)
    exact ⟨by first | rfl | trivial, hMd.bel⟩
  · rw [if_neg hf] at hM4
    rw [if_neg hf]
    (repeat with_reducible first|refine z_d ?_|refine z_e ?_|refine z_g ?_|refine z_l ?_|refine z_t (by omega) ?_)
    refine (vsure hM4 (List.mem_cons_self ..)).mono ?_
    rintro _ _ ⟨rfl, rfl⟩
    rw [decide_eq_true (show (vmF rm dn).settle.v.d.waits.length = 0 from rfl)]
    (repeat with_reducible first|refine z_c ?_|refine z_d ?_|refine z_l ?_|refine z_E ?_)
    try simp only [Bool.not_true]
    skip
    refine (vend hM4 (by simp [txO]) hok.settle rfl).mono ?_
    intro _ w5 h5
    refine h5.mono ?_
    rintro _ w6 ⟨g', gt', M', rfl, hM6, hs6⟩
    rw [settle_s, vmF_s] at hs6
    have hT := vtape hM6 (List.mem_cons_self ..)
    have hdr : Below w6.heap.size w6 w6.drew := (Below.refl _ _).drew
    have q0 : ∀ w', Below w6.heap.size w6 w' → w'.cell? ⟨gt', 0, none⟩ = some (tS (allV dn)) := fun w' hb => by rw [← hs6]; exact (hT.below' hb).cell 0
    (repeat with_reducible first|refine z_A ?_|refine z_B ?_)
    refine draw (Below w6.heap.size w6) hdr ?_
    refine yofPR (pr_pnot undVp) ?_
    simp only [Option.isSome_some]
    (repeat with_reducible first|refine yfd t0 (by decide) ?_|refine yl1 oneT q0 ?_|refine z_W ?_|refine z_d ?_|refine z_h ?_)
    have hMd := hM6.below hdr
    try refine gaY ?_
    refine act ?_
    refine (All21 dv dn w6.drew (hMd.txt (List.mem_cons_of_mem _ (List.mem_cons_self ..))) (by omega)).mono ?_
    rintro _ _ ⟨rfl, rfl⟩
    refine ⟨_, hdr, fun _ h => h, ?_⟩
    refine gdY ?_
    refine ty_eql_t rfl ?_
    (repeat with_reducible first|refine z_k ?_)
    exact ⟨by first | rfl | trivial, hMd.bel⟩
end Go.Proofs.Ytadbpelpbaikiaa.E
