import Derived.Test.YtcfncjejpjjhdaaM8
namespace Go.Proofs.Ytcfncjejpjjhdaa.E
open Go Go.RowKit
set_option linter.unusedSimpArgs false
set_option linter.unusedVariables false

theorem undXs : Try.prog.underlying 51 = some (.slice 47) := by kernel_rfl
theorem infX : (Try.prog.info? 47).map (fun i => (i.zero, i.size, i.bytes)) = some (some (.agg #[.int .i64 0, .slice none 0 0]), 2, 32) := by kernel_rfl
theorem sameInts40 (v v' : Value) (l l' : List Int) (w : World) (hv : Rd w v (iV l)) (hv' : Rd w v' (iV l')) : CallP Try.prog 40 #[v, v'] (fun r w' => r = .bool (decide (l = l')) ∧ Below w.heap.size w w') w := by
  obtain ⟨A, c, rfl, hc, hm⟩ := hv.slice
  obtain ⟨A', c', rfl, hc', hm'⟩ := hv'.slice
  have hlen : (iV l).length = l.length := List.length_map _
  have hlen' : (iV l').length = l'.length := List.length_map _
  rw [hlen] at hv ⊢
  rw [hlen'] at hv' ⊢
  refine ⟨S40.calls _ _ _ _ ?_⟩
  unfold S40
  refine ln undIs ?_
  refine ln undIs ?_
  refine bi_neq_c (fun h => ?_) (fun he => ?_)
  · (repeat with_reducible first|refine z_a ?_|refine z_b ?_|refine z_c ?_|refine z_d ?_|refine z_e ?_|refine z_f ?_|refine z_g ?_|refine z_h ?_|refine z_i ?_|refine z_j ?_|refine z_k ?_|refine z_l ?_|refine z_m (by omega) ?_|refine z_n (by omega) ?_|refine z_o (by omega) ?_|refine z_p (by omega) ?_|refine z_q (by omega) ?_|refine z_r (by omega) ?_|refine z_s (by omega) ?_|refine z_t (by omega) ?_|refine z_u (by omega) ?_|refine z_v (by omega) ?_|refine z_w (by omega) ?_|refine z_x (by omega) ?_|refine z_y (by omega) ?_|refine z_z (by omega) ?_|refine z_A ?_|refine z_B ?_|refine z_C ?_|refine z_D ?_|refine z_E ?_|refine z_F ?_|refine z_G ?_|refine z_H ?_|refine z_I ?_)
    exact ⟨fB fun e => h (by rw [e]), Below.refl _ _⟩
  have he : l.length = l'.length := by omega
  (repeat with_reducible first|refine z_a ?_|refine z_b ?_|refine z_c ?_|refine z_d ?_|refine z_e ?_|refine z_f ?_|refine z_g ?_|refine z_h ?_|refine z_i ?_|refine z_j ?_|refine z_k ?_|refine z_l ?_|refine z_m (by omega) ?_|refine z_n (by omega) ?_|refine z_o (by omega) ?_|refine z_p (by omega) ?_|refine z_q (by omega) ?_|refine z_r (by omega) ?_|refine z_s (by omega) ?_|refine z_t (by omega) ?_|refine z_u (by omega) ?_|refine z_v (by omega) ?_|refine z_w (by omega) ?_|refine z_x (by omega) ?_|refine z_y (by omega) ?_|refine z_z (by omega) ?_|refine z_A ?_|refine z_B ?_|refine z_C ?_|refine z_D ?_|refine z_E ?_|refine z_F ?_|refine z_G ?_|refine z_H ?_|refine z_I ?_)
  refine LoopP.inv1 (fun iv w' => ∃ k : Nat, k ≤ l.length ∧ iv = .int .i64 k ∧ l.take k = l'.take k ∧ Below w.heap.size w w') (fun iv _ => l.length - (intOf iv).toNat) ⟨0, by omega, rfl, rfl, Below.refl _ _⟩ ?_
  rintro _ w1 ⟨k, hk, rfl, ht, hb1⟩ J hJ
  dsimp only [List.headD_cons, List.tail_cons]
  refine ln undIs ?_
  refine bi_lss_c (fun h => ?_) (fun h => ?_)
  · have hk' : k < l.length := by omega
    have hk2 : k < l'.length := by omega
    have hdr : Below w1.heap.size w1 w1.drew := (Below.refl _ _).drew
    obtain ⟨a, rfl, hca⟩ := Rd.atI (hv.below hb1) k hk'
    obtain ⟨a', rfl, hca'⟩ := Rd.atI (hv'.below hb1) k hk2
    (repeat with_reducible first|refine z_a ?_|refine z_b ?_|refine z_c ?_|refine z_d ?_|refine z_e ?_|refine z_f ?_|refine z_g ?_|refine z_h ?_|refine z_i ?_|refine z_j ?_|refine z_k ?_|refine z_l ?_|refine z_m (by omega) ?_|refine z_n (by omega) ?_|refine z_o (by omega) ?_|refine z_p (by omega) ?_|refine z_q (by omega) ?_|refine z_r (by omega) ?_|refine z_s (by omega) ?_|refine z_t (by omega) ?_|refine z_u (by omega) ?_|refine z_v (by omega) ?_|refine z_w (by omega) ?_|refine z_x (by omega) ?_|refine z_y (by omega) ?_|refine z_z (by omega) ?_|refine z_A ?_|refine z_B ?_|refine z_C ?_|refine z_D ?_|refine z_E ?_|refine z_F ?_|refine z_G ?_|refine z_H ?_|refine z_I ?_)
    refine draw (Below w1.heap.size w1) hdr ?_
    refine yix1 undIs szI k hk' ?_
    refine yl1 oneI (RdKeep hca) ?_
    refine yix1 undIs szI k hk2 ?_
    refine yl1 oneI (RdKeep hca') ?_
    refine yi_neq_c (fun hn => ?_) (fun hn => ?_)
    · (repeat with_reducible first|refine z_J ?_|refine z_a ?_|refine z_b ?_|refine z_c ?_|refine z_d ?_|refine z_e ?_|refine z_f ?_|refine z_g ?_|refine z_h ?_|refine z_i ?_|refine z_j ?_|refine z_k ?_|refine z_l ?_|refine z_K (by omega) ?_|refine z_L (by omega) ?_|refine z_M (by omega) ?_|refine z_N (by omega) ?_|refine z_O (by omega) ?_|refine z_P (by omega) ?_|refine z_Q (by omega) ?_|refine z_R (by omega) ?_|refine z_S (by omega) ?_|refine z_T (by omega) ?_|refine z_U (by omega) ?_|refine z_V (by omega) ?_|refine z_W (by omega) ?_|refine z_X (by omega) ?_|refine z_Y ?_|refine z_Z ?_|refine z_a1 ?_|refine z_b1 ?_|refine z_c1 ?_|refine z_d1 ?_|refine z_e1 ?_|refine z_f1 ?_|refine z_g1 ?_)
      (repeat with_reducible first|refine z_a ?_|refine z_b ?_|refine z_c ?_|refine z_d ?_|refine z_e ?_|refine z_f ?_|refine z_g ?_|refine z_h ?_|refine z_i ?_|refine z_j ?_|refine z_k ?_|refine z_l ?_|refine z_m (by omega) ?_|refine z_n (by omega) ?_|refine z_o (by omega) ?_|refine z_p (by omega) ?_|refine z_q (by omega) ?_|refine z_r (by omega) ?_|refine z_s (by omega) ?_|refine z_t (by omega) ?_|refine z_u (by omega) ?_|refine z_v (by omega) ?_|refine z_w (by omega) ?_|refine z_x (by omega) ?_|refine z_y (by omega) ?_|refine z_z (by omega) ?_|refine z_A ?_|refine z_B ?_|refine z_C ?_|refine z_D ?_|refine z_E ?_|refine z_F ?_|refine z_G ?_|refine z_H ?_|refine z_I ?_)
      exact ⟨fB fun e => hn (by simp only [e]), below_then hb1 hdr⟩
    · (repeat with_reducible first|refine z_J ?_|refine z_a ?_|refine z_b ?_|refine z_c ?_|refine z_d ?_|refine z_e ?_|refine z_f ?_|refine z_g ?_|refine z_h ?_|refine z_i ?_|refine z_j ?_|refine z_k ?_|refine z_l ?_|refine z_K (by omega) ?_|refine z_L (by omega) ?_|refine z_M (by omega) ?_|refine z_N (by omega) ?_|refine z_O (by omega) ?_|refine z_P (by omega) ?_|refine z_Q (by omega) ?_|refine z_R (by omega) ?_|refine z_S (by omega) ?_|refine z_T (by omega) ?_|refine z_U (by omega) ?_|refine z_V (by omega) ?_|refine z_W (by omega) ?_|refine z_X (by omega) ?_|refine z_Y ?_|refine z_Z ?_|refine z_a1 ?_|refine z_b1 ?_|refine z_c1 ?_|refine z_d1 ?_|refine z_e1 ?_|refine z_f1 ?_|refine z_g1 ?_)
      (repeat with_reducible first|refine z_a ?_|refine z_b ?_|refine z_c ?_|refine z_d ?_|refine z_e ?_|refine z_f ?_|refine z_g ?_|refine z_h ?_|refine z_i ?_|refine z_j ?_|refine z_k ?_|refine z_l ?_|refine z_m (by omega) ?_|refine z_n (by omega) ?_|refine z_o (by omega) ?_|refine z_p (by omega) ?_|refine z_q (by omega) ?_|refine z_r (by omega) ?_|refine z_s (by omega) ?_|refine z_t (by omega) ?_|refine z_u (by omega) ?_|refine z_v (by omega) ?_|refine z_w (by omega) ?_|refine z_x (by omega) ?_|refine z_y (by omega) ?_|refine z_z (by omega) ?_|refine z_A ?_|refine z_B ?_|refine z_C ?_|refine z_D ?_|refine z_E ?_|refine z_F ?_|refine z_G ?_|refine z_H ?_|refine z_I ?_)
      refine hJ _ _ ⟨k + 1, by omega, by simp, ?_, below_then hb1 hdr⟩ (by simp [intOf]; omega)
      rw [List.take_succ_eq_append_getElem hk', List.take_succ_eq_append_getElem hk2, ht, hn]
  · have : k = l.length := by omega
    subst this
    rw [List.take_length, he, List.take_length] at ht
    (repeat with_reducible first|refine z_a ?_|refine z_b ?_|refine z_c ?_|refine z_d ?_|refine z_e ?_|refine z_f ?_|refine z_g ?_|refine z_h ?_|refine z_i ?_|refine z_j ?_|refine z_k ?_|refine z_l ?_|refine z_m (by omega) ?_|refine z_n (by omega) ?_|refine z_o (by omega) ?_|refine z_p (by omega) ?_|refine z_q (by omega) ?_|refine z_r (by omega) ?_|refine z_s (by omega) ?_|refine z_t (by omega) ?_|refine z_u (by omega) ?_|refine z_v (by omega) ?_|refine z_w (by omega) ?_|refine z_x (by omega) ?_|refine z_y (by omega) ?_|refine z_z (by omega) ?_|refine z_A ?_|refine z_B ?_|refine z_C ?_|refine z_D ?_|refine z_E ?_|refine z_F ?_|refine z_G ?_|refine z_H ?_|refine z_I ?_)
    exact ⟨tB ht, hb1⟩
abbrev IxR : Rdr (List (Int × List Int)) := rRow 2 (fun w us x => ∃ vf, us = [.int .i64 x.1, vf] ∧ Rd w vf (iV x.2))
theorem keeps_IxR : Keeps IxR := keeps_Row (fun _ _ _ _ hb h => by obtain ⟨vf, h1, h2⟩ := h; exact ⟨vf, h1, h2.below hb⟩)
structure Im where
  vf : Value
  id : Int
  fs : List Int
def imF (m : Im) : List Value := [.int .i64 m.id, m.vf]
theorem imF_len (m : Im) : (imF m).length = 2 := rfl
def imA (m : Im) : Int × List Int := (m.id, m.fs)
structure OwnIx (B : Nat) (w : World) (v : Value) (L : List Im) : Prop where
  row : w.ownsRow 0 47 2 v L.length (L.flatMap imF)
  fr : Fresh B v
  el : ∀ m ∈ L, OwnR 1 3 w m.vf m.fs.length (iV m.fs)
theorem ty_ne {s s' : Nat} {e e' : TypeId} {w : World} {v v' : Value} {n n' k : Nat} {cs cs' : List Value} (h : OwnR s e w v n cs) (h' : w.ownsRow 0 e' s' v' n' cs') (he : e ≠ e') (hk : v.ownBlock = some k) (hk' : v'.ownBlock = some k) : False := by
  rcases h.2 with ⟨rfl, _⟩ | ⟨g, c, cur, rfl, hb, _⟩
  · cases hk
  · rcases h'.2 with ⟨rfl, _⟩ | ⟨g', c', cur', rfl, _, hb', _⟩
    · cases hk'
    · have e1 : g = k := by simpa [Value.ownBlock] using hk
      have e2 : g' = k := by simpa [Value.ownBlock] using hk'
      subst e1
      subst e2
      have := hb.symm.trans hb'
      simp only [Option.some.injEq, Obj.cells.injEq] at this
      exact he this.2.1
section
variable {B : Nat} {w w' : World} {v : Value} {L : List Im}
theorem OwnIx.nil (B : Nat) (w : World) : OwnIx B w (.slice none 0 0) [] := ⟨⟨rfl, .inl ⟨rfl, rfl⟩⟩, Fresh.nil B, by simp⟩
theorem OwnIx.kept (h : OwnIx B w v L) (hb : Below w.heap.size w w') : OwnIx B w' v L :=
  ⟨ownsRow_turns h.row (Turns.of_below (F := fun _ => False) hb) fun _ _ h => h, h.fr, fun m hm => (h.el m hm).below hb⟩
theorem OwnIx.rd (h : OwnIx B w v L) : IxR w [v] (L.map imA) := by
  have h1 : rRow 2 (fun w us (x : Im) => us = imF x ∧ Rd w x.vf (iV x.fs)) w [v] L := OwnR.rd (OwnR.of_own h.row) imF_len fun x hx => ⟨rfl, ownR_rd1 (h.el x hx)⟩
  obtain ⟨A, c, he, q1, q2, q3⟩ := h1
  refine ⟨A, c, by rw [he, List.length_map], by rw [List.length_map]; exact q1, q2, fun i x hx => ?_⟩
  rw [List.getElem?_map] at hx
  obtain ⟨y, hy, rfl⟩ := Option.map_eq_some_iff.1 hx
  obtain ⟨a, us, ha, hus, hcell, h1, h2⟩ := q3 i y hy
  exact ⟨a, us, ha, hus, hcell, y.vf, h1, h2⟩
theorem OwnIx.push {K : Value → World → Prop} {cs : Array Bool} (h : OwnIx B w v L) (hB : B ≤ w.heap.size) (hl : L.length ≤ 100000) {A : Option Addr} {c k : Nat} {id : Int} {fs : List Int} (hf : OwnR 1 3 w (.slice A k c) fs.length (iV fs))
    (kk : ∀ v' w', OwnIx B w' v' (L ++ [⟨.slice A k c, id, fs⟩]) → Below B w w' → K v' w') :
    LiftP Try.prog (Instr.buildSlice 51 1 #[(0, .agg #[.int .i64 id, .slice A k c])]) (fun u w => NextP Try.prog (builtin .append #[51, 51] 51 cs #[v, u]) K w) w := by
  refine apOne (us := [.int .i64 id, .slice A k c]) undXs infX (by rfl) (by decide) h.row rfl (fun u hu => by
    simp only [List.mem_cons, List.not_mem_nil, or_false] at hu
    rcases hu with rfl | rfl <;> rfl) (by omega) (by omega) (by kernel_rfl) ?_
  intro v' w' ho hbl hT
  refine kk v' w' ⟨?_, h.fr.one hB hbl, fun m hm => ?_⟩ (hT.fresh h.fr hB)
  · have e : (L ++ [(⟨.slice A k c, id, fs⟩ : Im)]).length = L.length + 1 := by simp
    rw [e, List.flatMap_append]
    exact ho
  · rcases List.mem_append.1 hm with hm | hm
    · exact (h.el m hm).turns hT fun k hk e => ty_ne (h.el m hm) h.row (by decide) hk e
    · simp only [List.mem_cons, List.not_mem_nil, or_false] at hm
      subst hm
      exact hf.turns hT fun k hk e => ty_ne hf h.row (by decide) hk e
end
theorem thV_succ {V : BdV} {k : Nat} (hk : k < V.length) : thV (V.take (k + 1)) = thV (V.take k) ++ if V[k].st = 1 ∨ V[k].st = 2 then [((k : Int) + 1, V[k].fs)] else [] := by
  unfold thV
  rw [List.take_succ_eq_append_getElem hk, List.zipIdx_append, List.filterMap_append]
  congr 1
  rw [List.length_take, Nat.min_eq_left (by omega), List.zipIdx_cons, List.zipIdx_nil, List.filterMap_cons, List.filterMap_nil]
  split
  · rename_i h
    split at h
    · cases h
    · rename_i h3; rw [if_neg h3]
  · rename_i b h
    split at h
    · rename_i h3
      rw [if_pos h3]
      cases h
      congr 2
      omega
    · cases h
theorem ixV_in {V : BdV} {k : Nat} (hk : k < V.length) {id : Int} (hid : id = k + 1) : ixV V id = if V[k].st = 1 ∨ V[k].st = 2 then some V[k].fs else none := by
  have hs : stV V id = V[k].st := by
    rw [stV_at (by omega) (by omega)]
    have : (id - 1).toNat = k := by omega
    simp only [this]
  unfold ixV
  rw [hs]
  have : (id - 1).toNat = k := by omega
  rw [this, List.getElem?_eq_getElem hk]
  rfl
theorem ixV_zero {V : BdV} : ixV V 0 = none := by
  unfold ixV
  rw [if_neg]
  rw [stV_no (by omega)]
  omega
theorem thV_len (V : BdV) : (thV V).length ≤ V.length := by
  unfold thV
  refine Nat.le_trans (List.length_filterMap_le _ _) ?_
  rw [List.length_zipIdx]; exact Nat.le_refl _
section
variable {hu : Nat} {c : Nat → Nat} {w : World} {g n : Nat} {V : BdV}
theorem There21 (h : BdS hu c w g V) (hok : BdOk n V) :
    CallP Try.prog 21 #[.pointer (some ⟨g, 0, none⟩)] (fun r w' => ∃ L, L.map imA = thV V ∧ OwnIx w.heap.size w' r L ∧ Below w.heap.size w w') w := by
  obtain ⟨vL, M, hA, hV⟩ := h
  refine ⟨S21.calls _ _ _ ?_⟩
  unfold S21
  obtain ⟨A, cL, rfl, hml⟩ := hA.slice
  have h6 := hok.1
  have hl : V.length = M.length := by rw [← hV, absB_len]
  have h : BdS hu c w g V := ⟨_, M, hA, hV⟩
  have cc0 : w.cell? ⟨g, 0, none⟩ = some (.slice A M.length cL) := hA.blk.cell 0
  (repeat with_reducible first | refine fd b0 (by decide) ?_| refine ld oneLs cc0 ?_| refine ln undLs ?_|refine z_a ?_|refine z_b ?_|refine z_c ?_|refine z_d ?_|refine z_e ?_|refine z_f ?_|refine z_g ?_|refine z_h ?_|refine z_i ?_|refine z_j ?_|refine z_k ?_|refine z_l ?_|refine z_m (by omega) ?_|refine z_n (by omega) ?_|refine z_o (by omega) ?_|refine z_p (by omega) ?_|refine z_q (by omega) ?_|refine z_r (by omega) ?_|refine z_s (by omega) ?_|refine z_t (by omega) ?_|refine z_u (by omega) ?_|refine z_v (by omega) ?_|refine z_w (by omega) ?_|refine z_x (by omega) ?_|refine z_y (by omega) ?_|refine z_z (by omega) ?_|refine z_A ?_|refine z_B ?_|refine z_C ?_|refine z_D ?_|refine z_E ?_|refine z_F ?_|refine z_G ?_|refine z_H ?_|refine z_I ?_)
  refine LoopP.inv2 (fun ov iv w' => ∃ (i : Nat) (L : List Im), i ≤ M.length + 1 ∧ iv = .int .i64 i ∧ L.map imA = thV (V.take (i - 1)) ∧ OwnIx w.heap.size w' ov L ∧ Below w.heap.size w w') (fun _ iv _ => M.length + 1 - (intOf iv).toNat)
    ⟨0, [], by omega, rfl, rfl, OwnIx.nil _ _, Below.refl _ _⟩ ?_
  rintro ov _ w1 ⟨i, L, hi, rfl, hLe, hown, hb1⟩ J hJ
  dsimp only [List.headD_cons, List.tail_cons]
  have hs1 := hb1.size
  have hLl : L.length ≤ 100 := by
    have := congrArg List.length hLe
    rw [List.length_map] at this
    have h2 := thV_len (V.take (i - 1))
    rw [List.length_take] at h2
    omega
  refine bi_lss_c (fun hlt => ?_) (fun hlt => ?_)
  · (repeat with_reducible first|refine z_a ?_|refine z_b ?_|refine z_c ?_|refine z_d ?_|refine z_e ?_|refine z_f ?_|refine z_g ?_|refine z_h ?_|refine z_i ?_|refine z_j ?_|refine z_k ?_|refine z_l ?_|refine z_m (by omega) ?_|refine z_n (by omega) ?_|refine z_o (by omega) ?_|refine z_p (by omega) ?_|refine z_q (by omega) ?_|refine z_r (by omega) ?_|refine z_s (by omega) ?_|refine z_t (by omega) ?_|refine z_u (by omega) ?_|refine z_v (by omega) ?_|refine z_w (by omega) ?_|refine z_x (by omega) ?_|refine z_y (by omega) ?_|refine z_z (by omega) ?_|refine z_A ?_|refine z_B ?_|refine z_C ?_|refine z_D ?_|refine z_E ?_|refine z_F ?_|refine z_G ?_|refine z_H ?_|refine z_I ?_)
    refine JoinP.cut (fun xs w' => ∃ ov' L', xs = [ov'] ∧ L'.map imA = thV (V.take i) ∧ OwnIx w.heap.size w' ov' L' ∧ Below w.heap.size w w') (fun J2 hJ2 => ?_) (fun xs w' hI => ?_)
    · refine (Index19 (i : Int) (by omega) (h.below hb1) hok).mono ?_
      rintro r w2 ⟨hr, h2⟩
      have hb2 := below_then hb1 h2
      have hs2 := hb2.size
      rcases Nat.eq_zero_or_pos i with h0 | h0
      · subst h0
        have e0 : ixV V ((0 : Nat) : Int) = none := ixV_zero
        rw [e0] at hr
        replace hr : r = _ := hr
        subst hr
        (repeat with_reducible first|refine z_a ?_|refine z_b ?_|refine z_c ?_|refine z_d ?_|refine z_e ?_|refine z_f ?_|refine z_g ?_|refine z_h ?_|refine z_i ?_|refine z_j ?_|refine z_k ?_|refine z_l ?_|refine z_m (by omega) ?_|refine z_n (by omega) ?_|refine z_o (by omega) ?_|refine z_p (by omega) ?_|refine z_q (by omega) ?_|refine z_r (by omega) ?_|refine z_s (by omega) ?_|refine z_t (by omega) ?_|refine z_u (by omega) ?_|refine z_v (by omega) ?_|refine z_w (by omega) ?_|refine z_x (by omega) ?_|refine z_y (by omega) ?_|refine z_z (by omega) ?_|refine z_A ?_|refine z_B ?_|refine z_C ?_|refine z_D ?_|refine z_E ?_|refine z_F ?_|refine z_G ?_|refine z_H ?_|refine z_I ?_)
        refine alB zX ?_
        intro g3 w3 hg3 hB3 h3
        refine stB (cells := #[.int .i64 0, .slice none 0 0]) hB3 szX rfl (by simp [Value.oneCell']) ?_
        intro w4 hB4 hT4
        have h4 : Below w2.heap.size w2 w4 := below_own h3 hT4 (by omega)
        (repeat with_reducible first|refine z_a ?_|refine z_b ?_|refine z_c ?_|refine z_d ?_|refine z_e ?_|refine z_f ?_|refine z_g ?_|refine z_h ?_|refine z_i ?_|refine z_j ?_|refine z_k ?_|refine z_l ?_|refine z_m (by omega) ?_|refine z_n (by omega) ?_|refine z_o (by omega) ?_|refine z_p (by omega) ?_|refine z_q (by omega) ?_|refine z_r (by omega) ?_|refine z_s (by omega) ?_|refine z_t (by omega) ?_|refine z_u (by omega) ?_|refine z_v (by omega) ?_|refine z_w (by omega) ?_|refine z_x (by omega) ?_|refine z_y (by omega) ?_|refine z_z (by omega) ?_|refine z_A ?_|refine z_B ?_|refine z_C ?_|refine z_D ?_|refine z_E ?_|refine z_F ?_|refine z_G ?_|refine z_H ?_|refine z_I ?_)
        exact hJ2 _ _ ⟨ov, L, rfl, hLe, (hown.kept h2).kept h4, below_then hb2 h4⟩
      · obtain ⟨j, rfl⟩ : ∃ j, i = j + 1 := ⟨i - 1, by omega⟩
        have hj : j < V.length := by omega
        rw [Nat.add_sub_cancel] at hLe
        have e1 := ixV_in hj (id := ((j + 1 : Nat) : Int)) (by omega)
        by_cases hst : V[j].st = 1 ∨ V[j].st = 2
        · rw [if_pos hst] at e1
          rw [e1] at hr
          obtain ⟨vf, rfl, hvf, hff⟩ := hr
          obtain ⟨A2, c2, rfl⟩ := hvf.slice
          (repeat with_reducible first|refine z_a ?_|refine z_b ?_|refine z_c ?_|refine z_d ?_|refine z_e ?_|refine z_f ?_|refine z_g ?_|refine z_h ?_|refine z_i ?_|refine z_j ?_|refine z_k ?_|refine z_l ?_|refine z_m (by omega) ?_|refine z_n (by omega) ?_|refine z_o (by omega) ?_|refine z_p (by omega) ?_|refine z_q (by omega) ?_|refine z_r (by omega) ?_|refine z_s (by omega) ?_|refine z_t (by omega) ?_|refine z_u (by omega) ?_|refine z_v (by omega) ?_|refine z_w (by omega) ?_|refine z_x (by omega) ?_|refine z_y (by omega) ?_|refine z_z (by omega) ?_|refine z_A ?_|refine z_B ?_|refine z_C ?_|refine z_D ?_|refine z_E ?_|refine z_F ?_|refine z_G ?_|refine z_H ?_|refine z_I ?_)
          refine alB zX ?_
          intro g3 w3 hg3 hB3 h3
          refine stB (cells := #[.int .i64 ((j + 1 : Nat) : Int), .slice A2 (iV V[j].fs).length c2]) hB3 szX rfl (by simp [Value.oneCell']) ?_
          intro w4 hB4 hT4
          have h4 : Below w2.heap.size w2 w4 := below_own h3 hT4 (by omega)
          have hb4 := below_then hb2 h4
          (repeat with_reducible first|refine z_a ?_|refine z_b ?_|refine z_c ?_|refine z_d ?_|refine z_e ?_|refine z_f ?_|refine z_g ?_|refine z_h ?_|refine z_i ?_|refine z_j ?_|refine z_k ?_|refine z_l ?_|refine z_m (by omega) ?_|refine z_n (by omega) ?_|refine z_o (by omega) ?_|refine z_p (by omega) ?_|refine z_q (by omega) ?_|refine z_r (by omega) ?_|refine z_s (by omega) ?_|refine z_t (by omega) ?_|refine z_u (by omega) ?_|refine z_v (by omega) ?_|refine z_w (by omega) ?_|refine z_x (by omega) ?_|refine z_y (by omega) ?_|refine z_z (by omega) ?_|refine z_A ?_|refine z_B ?_|refine z_C ?_|refine z_D ?_|refine z_E ?_|refine z_F ?_|refine z_G ?_|refine z_H ?_|refine z_I ?_)
          refine ldA aggX hB4 szX ?_
          refine ((hown.kept h2).kept h4).push hb4.size (by omega) (fs := V[j].fs) (own_OwnR1 (hvf.below h4)) ?_
          intro v5 w5 ho5 h5
          refine hJ2 _ _ ⟨v5, _, rfl, ?_, ho5, hb4.trans h5⟩
          rw [List.map_append, hLe, thV_succ hj, if_pos hst]
          rfl
        · rw [if_neg hst] at e1
          rw [e1] at hr
          replace hr : r = _ := hr
          subst hr
          (repeat with_reducible first|refine z_a ?_|refine z_b ?_|refine z_c ?_|refine z_d ?_|refine z_e ?_|refine z_f ?_|refine z_g ?_|refine z_h ?_|refine z_i ?_|refine z_j ?_|refine z_k ?_|refine z_l ?_|refine z_m (by omega) ?_|refine z_n (by omega) ?_|refine z_o (by omega) ?_|refine z_p (by omega) ?_|refine z_q (by omega) ?_|refine z_r (by omega) ?_|refine z_s (by omega) ?_|refine z_t (by omega) ?_|refine z_u (by omega) ?_|refine z_v (by omega) ?_|refine z_w (by omega) ?_|refine z_x (by omega) ?_|refine z_y (by omega) ?_|refine z_z (by omega) ?_|refine z_A ?_|refine z_B ?_|refine z_C ?_|refine z_D ?_|refine z_E ?_|refine z_F ?_|refine z_G ?_|refine z_H ?_|refine z_I ?_)
          refine alB zX ?_
          intro g3 w3 hg3 hB3 h3
          refine stB (cells := #[.int .i64 0, .slice none 0 0]) hB3 szX rfl (by simp [Value.oneCell']) ?_
          intro w4 hB4 hT4
          have h4 : Below w2.heap.size w2 w4 := below_own h3 hT4 (by omega)
          (repeat with_reducible first|refine z_a ?_|refine z_b ?_|refine z_c ?_|refine z_d ?_|refine z_e ?_|refine z_f ?_|refine z_g ?_|refine z_h ?_|refine z_i ?_|refine z_j ?_|refine z_k ?_|refine z_l ?_|refine z_m (by omega) ?_|refine z_n (by omega) ?_|refine z_o (by omega) ?_|refine z_p (by omega) ?_|refine z_q (by omega) ?_|refine z_r (by omega) ?_|refine z_s (by omega) ?_|refine z_t (by omega) ?_|refine z_u (by omega) ?_|refine z_v (by omega) ?_|refine z_w (by omega) ?_|refine z_x (by omega) ?_|refine z_y (by omega) ?_|refine z_z (by omega) ?_|refine z_A ?_|refine z_B ?_|refine z_C ?_|refine z_D ?_|refine z_E ?_|refine z_F ?_|refine z_G ?_|refine z_H ?_|refine z_I ?_)
          refine hJ2 _ _ ⟨ov, L, rfl, ?_, (hown.kept h2).kept h4, below_then hb2 h4⟩
          rw [hLe, thV_succ hj, if_neg hst, List.append_nil]
    · obtain ⟨ov', L', rfl, q1, q2, q3⟩ := hI
      dsimp only [List.headD_cons, List.tail_cons]
      (repeat with_reducible first|refine z_a ?_|refine z_b ?_|refine z_c ?_|refine z_d ?_|refine z_e ?_|refine z_f ?_|refine z_g ?_|refine z_h ?_|refine z_i ?_|refine z_j ?_|refine z_k ?_|refine z_l ?_|refine z_m (by omega) ?_|refine z_n (by omega) ?_|refine z_o (by omega) ?_|refine z_p (by omega) ?_|refine z_q (by omega) ?_|refine z_r (by omega) ?_|refine z_s (by omega) ?_|refine z_t (by omega) ?_|refine z_u (by omega) ?_|refine z_v (by omega) ?_|refine z_w (by omega) ?_|refine z_x (by omega) ?_|refine z_y (by omega) ?_|refine z_z (by omega) ?_|refine z_A ?_|refine z_B ?_|refine z_C ?_|refine z_D ?_|refine z_E ?_|refine z_F ?_|refine z_G ?_|refine z_H ?_|refine z_I ?_)
      exact hJ _ _ _ ⟨i + 1, L', by omega, by simp, q1, q2, q3⟩ (by simp [intOf]; omega)
  · have : i = M.length + 1 := by omega
    subst this
    (repeat with_reducible first|refine z_a ?_|refine z_b ?_|refine z_c ?_|refine z_d ?_|refine z_e ?_|refine z_f ?_|refine z_g ?_|refine z_h ?_|refine z_i ?_|refine z_j ?_|refine z_k ?_|refine z_l ?_|refine z_m (by omega) ?_|refine z_n (by omega) ?_|refine z_o (by omega) ?_|refine z_p (by omega) ?_|refine z_q (by omega) ?_|refine z_r (by omega) ?_|refine z_s (by omega) ?_|refine z_t (by omega) ?_|refine z_u (by omega) ?_|refine z_v (by omega) ?_|refine z_w (by omega) ?_|refine z_x (by omega) ?_|refine z_y (by omega) ?_|refine z_z (by omega) ?_|refine z_A ?_|refine z_B ?_|refine z_C ?_|refine z_D ?_|refine z_E ?_|refine z_F ?_|refine z_G ?_|refine z_H ?_|refine z_I ?_)
    rw [Nat.add_sub_cancel, ← hl, List.take_length] at hLe
    exact ⟨L, hLe, hown, hb1⟩
end
end Go.Proofs.Ytcfncjejpjjhdaa.E
namespace Go.Proofs.Ytcfncjejpjjhdaa.E
open Go Go.RowKit
set_option linter.unusedSimpArgs false
set_option linter.unusedVariables false

section
variable {hu : Nat} {c : Nat → Nat} {w : World} {g n : Nat} {vn : Int} {V : BdV}
theorem refState35 (id : Int) (h : RbS hu c w g vn V) (hid : id ≤ 9223372036854775807) :
    CallP Try.prog 35 #[.pointer (some ⟨g, 0, none⟩), .int .i64 id] (fun r w' => r = .int .i64 (stV V id) ∧ w = w') w := by
  obtain ⟨vL, M, h, rfl⟩ := h
  refine ⟨S35.calls _ _ _ _ ?_⟩
  unfold S35
  obtain ⟨A, cL, rfl, hml⟩ := h.slice
  have cc0 : w.cell? ⟨g, 0, none⟩ = some (.slice A M.length cL) := h.blk.cell 0
  refine bi_lss_c (fun h1 => ?_) (fun h1 => ?_)
  · (repeat with_reducible first|refine z_a ?_|refine z_b ?_|refine z_c ?_|refine z_d ?_|refine z_e ?_|refine z_f ?_|refine z_g ?_|refine z_h ?_|refine z_i ?_|refine z_j ?_|refine z_k ?_|refine z_l ?_|refine z_m (by omega) ?_|refine z_n (by omega) ?_|refine z_o (by omega) ?_|refine z_p (by omega) ?_|refine z_q (by omega) ?_|refine z_r (by omega) ?_|refine z_s (by omega) ?_|refine z_t (by omega) ?_|refine z_u (by omega) ?_|refine z_v (by omega) ?_|refine z_w (by omega) ?_|refine z_x (by omega) ?_|refine z_y (by omega) ?_|refine z_z (by omega) ?_|refine z_A ?_|refine z_B ?_|refine z_C ?_|refine z_D ?_|refine z_E ?_|refine z_F ?_|refine z_G ?_|refine z_H ?_|refine z_I ?_)
    exact ⟨by rw [stV_no (by omega)], rfl⟩
  (repeat with_reducible first | refine fd c0 (by decide) ?_| refine ld oneRls cc0 ?_| refine ln undRs ?_|refine z_a ?_|refine z_b ?_|refine z_c ?_|refine z_d ?_|refine z_e ?_|refine z_f ?_|refine z_g ?_|refine z_h ?_|refine z_i ?_|refine z_j ?_|refine z_k ?_|refine z_l ?_|refine z_m (by omega) ?_|refine z_n (by omega) ?_|refine z_o (by omega) ?_|refine z_p (by omega) ?_|refine z_q (by omega) ?_|refine z_r (by omega) ?_|refine z_s (by omega) ?_|refine z_t (by omega) ?_|refine z_u (by omega) ?_|refine z_v (by omega) ?_|refine z_w (by omega) ?_|refine z_x (by omega) ?_|refine z_y (by omega) ?_|refine z_z (by omega) ?_|refine z_A ?_|refine z_B ?_|refine z_C ?_|refine z_D ?_|refine z_E ?_|refine z_F ?_|refine z_G ?_|refine z_H ?_|refine z_I ?_)
  refine bi_gtr_c (fun h2 => ?_) (fun h2 => ?_)
  · (repeat with_reducible first|refine z_a ?_|refine z_b ?_|refine z_c ?_|refine z_d ?_|refine z_e ?_|refine z_f ?_|refine z_g ?_|refine z_h ?_|refine z_i ?_|refine z_j ?_|refine z_k ?_|refine z_l ?_|refine z_m (by omega) ?_|refine z_n (by omega) ?_|refine z_o (by omega) ?_|refine z_p (by omega) ?_|refine z_q (by omega) ?_|refine z_r (by omega) ?_|refine z_s (by omega) ?_|refine z_t (by omega) ?_|refine z_u (by omega) ?_|refine z_v (by omega) ?_|refine z_w (by omega) ?_|refine z_x (by omega) ?_|refine z_y (by omega) ?_|refine z_z (by omega) ?_|refine z_A ?_|refine z_B ?_|refine z_C ?_|refine z_D ?_|refine z_E ?_|refine z_F ?_|refine z_G ?_|refine z_H ?_|refine z_I ?_)
    exact ⟨by rw [stV_no (by rw [absB_len]; omega)], rfl⟩
  obtain ⟨i, hi, rfl⟩ : ∃ i : Nat, i < M.length ∧ id = i + 1 := ⟨(id - 1).toNat, by omega, by omega⟩
  obtain ⟨gL, cL', he, _, q1, _⟩ := h.at i hi
  cases he
  have e1 : ((i : Int) + 1 - 1) = (i : Int) := by omega
  (repeat with_reducible first | refine fd c0 (by decide) ?_| refine ld oneRls cc0 ?_|refine z_a ?_|refine z_b ?_|refine z_c ?_|refine z_d ?_|refine z_e ?_|refine z_f ?_|refine z_g ?_|refine z_h ?_|refine z_i ?_|refine z_j ?_|refine z_k ?_|refine z_l ?_|refine z_m (by omega) ?_|refine z_n (by omega) ?_|refine z_o (by omega) ?_|refine z_p (by omega) ?_|refine z_q (by omega) ?_|refine z_r (by omega) ?_|refine z_s (by omega) ?_|refine z_t (by omega) ?_|refine z_u (by omega) ?_|refine z_v (by omega) ?_|refine z_w (by omega) ?_|refine z_x (by omega) ?_|refine z_y (by omega) ?_|refine z_z (by omega) ?_|refine z_A ?_|refine z_B ?_|refine z_C ?_|refine z_D ?_|refine z_E ?_|refine z_F ?_|refine z_G ?_|refine z_H ?_|refine z_I ?_)
  rw [e1]
  (repeat with_reducible first | refine ixG undRs szRl i hi ?_| refine fdG m1 (by decide) ?_| refine ld oneI q1 ?_|refine z_a ?_|refine z_b ?_|refine z_c ?_|refine z_d ?_|refine z_e ?_|refine z_f ?_|refine z_g ?_|refine z_h ?_|refine z_i ?_|refine z_j ?_|refine z_k ?_|refine z_l ?_|refine z_m (by omega) ?_|refine z_n (by omega) ?_|refine z_o (by omega) ?_|refine z_p (by omega) ?_|refine z_q (by omega) ?_|refine z_r (by omega) ?_|refine z_s (by omega) ?_|refine z_t (by omega) ?_|refine z_u (by omega) ?_|refine z_v (by omega) ?_|refine z_w (by omega) ?_|refine z_x (by omega) ?_|refine z_y (by omega) ?_|refine z_z (by omega) ?_|refine z_A ?_|refine z_B ?_|refine z_C ?_|refine z_D ?_|refine z_E ?_|refine z_F ?_|refine z_G ?_|refine z_H ?_|refine z_I ?_)
  exact ⟨by rw [absB_st i hi rfl], rfl⟩
theorem refGone41 (h : RbS hu c w g vn V) (h6 : V.length ≤ 6) :
    CallP Try.prog 41 #[.pointer (some ⟨g, 0, none⟩)] (fun r w' => Own 3 w' r (iV (goV V)) ∧ Fresh w.heap.size r ∧ Below w.heap.size w w') w := by
  obtain ⟨vL, M, h, rfl⟩ := h
  refine ⟨S41.calls _ _ _ ?_⟩
  unfold S41
  obtain ⟨A, cL, rfl, hml⟩ := h.slice
  rw [absB_len] at h6
  refine LoopP.inv2 (fun ov iv w' => ∃ i : Nat, i ≤ M.length ∧ iv = .int .i64 i ∧ Own 3 w' ov (iV (goV ((absB M).take i))) ∧ Fresh w.heap.size ov ∧ Below w.heap.size w w') (fun _ iv _ => M.length - (intOf iv).toNat)
    ⟨0, by omega, rfl, Own.nil _ _, Fresh.nil _, Below.refl _ _⟩ ?_
  rintro ov _ w1 ⟨i, hi, rfl, hown, hfr, hb1⟩ J hJ
  dsimp only [List.headD_cons, List.tail_cons]
  have hs1 := hb1.size
  have h1 := h.below hb1
  have cc1 : w1.cell? ⟨g, 0, none⟩ = some (.slice A M.length cL) := h1.blk.cell 0
  (repeat with_reducible first | refine fd c0 (by decide) ?_| refine ld oneRls cc1 ?_| refine ln undRs ?_|refine z_a ?_|refine z_b ?_|refine z_c ?_|refine z_d ?_|refine z_e ?_|refine z_f ?_|refine z_g ?_|refine z_h ?_|refine z_i ?_|refine z_j ?_|refine z_k ?_|refine z_l ?_|refine z_m (by omega) ?_|refine z_n (by omega) ?_|refine z_o (by omega) ?_|refine z_p (by omega) ?_|refine z_q (by omega) ?_|refine z_r (by omega) ?_|refine z_s (by omega) ?_|refine z_t (by omega) ?_|refine z_u (by omega) ?_|refine z_v (by omega) ?_|refine z_w (by omega) ?_|refine z_x (by omega) ?_|refine z_y (by omega) ?_|refine z_z (by omega) ?_|refine z_A ?_|refine z_B ?_|refine z_C ?_|refine z_D ?_|refine z_E ?_|refine z_F ?_|refine z_G ?_|refine z_H ?_|refine z_I ?_)
  refine bi_lss_c (fun hlt => ?_) (fun hlt => ?_)
  · have hi' : i < M.length := by omega
    obtain ⟨gL, cL', he, _, q1, _⟩ := h1.at i hi'
    cases he
    have hj' : i < (absB M).length := by rw [absB_len]; exact hi'
    (repeat with_reducible first|refine z_a ?_|refine z_b ?_|refine z_c ?_|refine z_d ?_|refine z_e ?_|refine z_f ?_|refine z_g ?_|refine z_h ?_|refine z_i ?_|refine z_j ?_|refine z_k ?_|refine z_l ?_|refine z_m (by omega) ?_|refine z_n (by omega) ?_|refine z_o (by omega) ?_|refine z_p (by omega) ?_|refine z_q (by omega) ?_|refine z_r (by omega) ?_|refine z_s (by omega) ?_|refine z_t (by omega) ?_|refine z_u (by omega) ?_|refine z_v (by omega) ?_|refine z_w (by omega) ?_|refine z_x (by omega) ?_|refine z_y (by omega) ?_|refine z_z (by omega) ?_|refine z_A ?_|refine z_B ?_|refine z_C ?_|refine z_D ?_|refine z_E ?_|refine z_F ?_|refine z_G ?_|refine z_H ?_|refine z_I ?_)
    refine JoinP.cut (fun xs w' => ∃ ov', xs = [ov'] ∧ Own 3 w' ov' (iV (goV ((absB M).take (i + 1)))) ∧ Fresh w.heap.size ov' ∧ Below w.heap.size w w') (fun J2 hJ2 => ?_) (fun xs w' hI => ?_)
    · (repeat with_reducible first | refine fd c0 (by decide) ?_| refine ld oneRls cc1 ?_| refine ixG undRs szRl i hi' ?_| refine fdG m1 (by decide) ?_| refine ld oneI q1 ?_|refine z_a ?_|refine z_b ?_|refine z_c ?_|refine z_d ?_|refine z_e ?_|refine z_f ?_|refine z_g ?_|refine z_h ?_|refine z_i ?_|refine z_j ?_|refine z_k ?_|refine z_l ?_|refine z_m (by omega) ?_|refine z_n (by omega) ?_|refine z_o (by omega) ?_|refine z_p (by omega) ?_|refine z_q (by omega) ?_|refine z_r (by omega) ?_|refine z_s (by omega) ?_|refine z_t (by omega) ?_|refine z_u (by omega) ?_|refine z_v (by omega) ?_|refine z_w (by omega) ?_|refine z_x (by omega) ?_|refine z_y (by omega) ?_|refine z_z (by omega) ?_|refine z_A ?_|refine z_B ?_|refine z_C ?_|refine z_D ?_|refine z_E ?_|refine z_F ?_|refine z_G ?_|refine z_H ?_|refine z_I ?_)
      refine bi_eql_c (fun h3 => ?_) (fun h3 => ?_)
      · (repeat with_reducible first|refine z_a ?_|refine z_b ?_|refine z_c ?_|refine z_d ?_|refine z_e ?_|refine z_f ?_|refine z_g ?_|refine z_h ?_|refine z_i ?_|refine z_j ?_|refine z_k ?_|refine z_l ?_|refine z_m (by omega) ?_|refine z_n (by omega) ?_|refine z_o (by omega) ?_|refine z_p (by omega) ?_|refine z_q (by omega) ?_|refine z_r (by omega) ?_|refine z_s (by omega) ?_|refine z_t (by omega) ?_|refine z_u (by omega) ?_|refine z_v (by omega) ?_|refine z_w (by omega) ?_|refine z_x (by omega) ?_|refine z_y (by omega) ?_|refine z_z (by omega) ?_|refine z_A ?_|refine z_B ?_|refine z_C ?_|refine z_D ?_|refine z_E ?_|refine z_F ?_|refine z_G ?_|refine z_H ?_|refine z_I ?_)
        refine bs1I bI1 ?_
        intro v3 w3 ho3 _ h3w
        have hb3 := below_then hb1 h3w
        refine apF w.heap.size undIs infI (by rfl) (by decide) (hown.below h3w) hfr hb3.size ho3.rd (fun u hu => by simp only [List.mem_cons, List.not_mem_nil, or_false] at hu; rw [hu]; rfl) (by
          rw [List.length_map]
          have : (goV ((absB M).take i)).length ≤ M.length := by
            unfold goV
            refine Nat.le_trans (List.length_filterMap_le _ _) ?_
            rw [List.length_zipIdx, List.length_take, absB_len]; omega
          simp; omega) ?_
        intro v4 w4 ho4 hf4 hb4 _
        refine hJ2 _ _ ⟨v4, rfl, ?_, hf4, hb3.trans hb4⟩
        rw [goV_succ hj', if_pos (by rw [absB_get]; exact h3)]
        unfold iV at *
        rw [List.map_append]
        exact ho4
      · (repeat with_reducible first|refine z_a ?_|refine z_b ?_|refine z_c ?_|refine z_d ?_|refine z_e ?_|refine z_f ?_|refine z_g ?_|refine z_h ?_|refine z_i ?_|refine z_j ?_|refine z_k ?_|refine z_l ?_|refine z_m (by omega) ?_|refine z_n (by omega) ?_|refine z_o (by omega) ?_|refine z_p (by omega) ?_|refine z_q (by omega) ?_|refine z_r (by omega) ?_|refine z_s (by omega) ?_|refine z_t (by omega) ?_|refine z_u (by omega) ?_|refine z_v (by omega) ?_|refine z_w (by omega) ?_|refine z_x (by omega) ?_|refine z_y (by omega) ?_|refine z_z (by omega) ?_|refine z_A ?_|refine z_B ?_|refine z_C ?_|refine z_D ?_|refine z_E ?_|refine z_F ?_|refine z_G ?_|refine z_H ?_|refine z_I ?_)
        refine hJ2 _ _ ⟨ov, rfl, ?_, hfr, hb1⟩
        rw [goV_succ hj', if_neg (by rw [absB_get]; exact h3), List.append_nil]
        exact hown
    · obtain ⟨ov', rfl, q1, q2, q3⟩ := hI
      dsimp only [List.headD_cons, List.tail_cons]
      (repeat with_reducible first|refine z_a ?_|refine z_b ?_|refine z_c ?_|refine z_d ?_|refine z_e ?_|refine z_f ?_|refine z_g ?_|refine z_h ?_|refine z_i ?_|refine z_j ?_|refine z_k ?_|refine z_l ?_|refine z_m (by omega) ?_|refine z_n (by omega) ?_|refine z_o (by omega) ?_|refine z_p (by omega) ?_|refine z_q (by omega) ?_|refine z_r (by omega) ?_|refine z_s (by omega) ?_|refine z_t (by omega) ?_|refine z_u (by omega) ?_|refine z_v (by omega) ?_|refine z_w (by omega) ?_|refine z_x (by omega) ?_|refine z_y (by omega) ?_|refine z_z (by omega) ?_|refine z_A ?_|refine z_B ?_|refine z_C ?_|refine z_D ?_|refine z_E ?_|refine z_F ?_|refine z_G ?_|refine z_H ?_|refine z_I ?_)
      exact hJ _ _ _ ⟨i + 1, by omega, by simp, q1, q2, q3⟩ (by simp [intOf]; omega)
  · have : i = M.length := by omega
    subst this
    (repeat with_reducible first|refine z_a ?_|refine z_b ?_|refine z_c ?_|refine z_d ?_|refine z_e ?_|refine z_f ?_|refine z_g ?_|refine z_h ?_|refine z_i ?_|refine z_j ?_|refine z_k ?_|refine z_l ?_|refine z_m (by omega) ?_|refine z_n (by omega) ?_|refine z_o (by omega) ?_|refine z_p (by omega) ?_|refine z_q (by omega) ?_|refine z_r (by omega) ?_|refine z_s (by omega) ?_|refine z_t (by omega) ?_|refine z_u (by omega) ?_|refine z_v (by omega) ?_|refine z_w (by omega) ?_|refine z_x (by omega) ?_|refine z_y (by omega) ?_|refine z_z (by omega) ?_|refine z_A ?_|refine z_B ?_|refine z_C ?_|refine z_D ?_|refine z_E ?_|refine z_F ?_|refine z_G ?_|refine z_H ?_|refine z_I ?_)
    rw [← absB_len (M := M), List.take_length] at hown
    exact ⟨hown, hfr, hb1⟩
theorem refThere39 (h : RbS hu c w g vn V) (h6 : V.length ≤ 6) (hst3 : ∀ x ∈ V, x.st = 1 ∨ x.st = 2 ∨ x.st = 3) :
    CallP Try.prog 39 #[.pointer (some ⟨g, 0, none⟩)] (fun r w' => ∃ L, L.map imA = thV V ∧ OwnIx w.heap.size w' r L ∧ Below w.heap.size w w') w := by
  obtain ⟨vL, M, h, rfl⟩ := h
  refine ⟨S39.calls _ _ _ ?_⟩
  unfold S39
  obtain ⟨A, cL, rfl, hml⟩ := h.slice
  rw [absB_len] at h6
  refine LoopP.inv2 (fun ov iv w' => ∃ (i : Nat) (L : List Im), i ≤ M.length ∧ iv = .int .i64 i ∧ L.map imA = thV ((absB M).take i) ∧ OwnIx w.heap.size w' ov L ∧ Below w.heap.size w w') (fun _ iv _ => M.length - (intOf iv).toNat)
    ⟨0, [], by omega, rfl, rfl, OwnIx.nil _ _, Below.refl _ _⟩ ?_
  rintro ov _ w1 ⟨i, L, hi, rfl, hLe, hown, hb1⟩ J hJ
  dsimp only [List.headD_cons, List.tail_cons]
  have hs1 := hb1.size
  have h1 := h.below hb1
  have hLl : L.length ≤ 100 := by
    have := congrArg List.length hLe
    rw [List.length_map] at this
    have h2 := thV_len ((absB M).take i)
    rw [List.length_take, absB_len] at h2
    omega
  have cc1 : w1.cell? ⟨g, 0, none⟩ = some (.slice A M.length cL) := h1.blk.cell 0
  (repeat with_reducible first | refine fd c0 (by decide) ?_| refine ld oneRls cc1 ?_| refine ln undRs ?_|refine z_a ?_|refine z_b ?_|refine z_c ?_|refine z_d ?_|refine z_e ?_|refine z_f ?_|refine z_g ?_|refine z_h ?_|refine z_i ?_|refine z_j ?_|refine z_k ?_|refine z_l ?_|refine z_m (by omega) ?_|refine z_n (by omega) ?_|refine z_o (by omega) ?_|refine z_p (by omega) ?_|refine z_q (by omega) ?_|refine z_r (by omega) ?_|refine z_s (by omega) ?_|refine z_t (by omega) ?_|refine z_u (by omega) ?_|refine z_v (by omega) ?_|refine z_w (by omega) ?_|refine z_x (by omega) ?_|refine z_y (by omega) ?_|refine z_z (by omega) ?_|refine z_A ?_|refine z_B ?_|refine z_C ?_|refine z_D ?_|refine z_E ?_|refine z_F ?_|refine z_G ?_|refine z_H ?_|refine z_I ?_)
  refine bi_lss_c (fun hlt => ?_) (fun hlt => ?_)
  · have hi' : i < M.length := by omega
    obtain ⟨gL, cL', he, q0, q1, _⟩ := h1.at i hi'
    cases he
    have hj' : i < (absB M).length := by rw [absB_len]; exact hi'
    have hs := hst3 _ (List.getElem_mem hj')
    rw [absB_get] at hs
    (repeat with_reducible first|refine z_a ?_|refine z_b ?_|refine z_c ?_|refine z_d ?_|refine z_e ?_|refine z_f ?_|refine z_g ?_|refine z_h ?_|refine z_i ?_|refine z_j ?_|refine z_k ?_|refine z_l ?_|refine z_m (by omega) ?_|refine z_n (by omega) ?_|refine z_o (by omega) ?_|refine z_p (by omega) ?_|refine z_q (by omega) ?_|refine z_r (by omega) ?_|refine z_s (by omega) ?_|refine z_t (by omega) ?_|refine z_u (by omega) ?_|refine z_v (by omega) ?_|refine z_w (by omega) ?_|refine z_x (by omega) ?_|refine z_y (by omega) ?_|refine z_z (by omega) ?_|refine z_A ?_|refine z_B ?_|refine z_C ?_|refine z_D ?_|refine z_E ?_|refine z_F ?_|refine z_G ?_|refine z_H ?_|refine z_I ?_)
    refine JoinP.cut (fun xs w' => ∃ ov' L', xs = [ov'] ∧ L'.map imA = thV ((absB M).take (i + 1)) ∧ OwnIx w.heap.size w' ov' L' ∧ Below w.heap.size w w') (fun J2 hJ2 => ?_) (fun xs w' hI => ?_)
    · (repeat with_reducible first | refine fd c0 (by decide) ?_| refine ld oneRls cc1 ?_| refine ixG undRs szRl i hi' ?_| refine fdG m1 (by decide) ?_| refine ld oneI q1 ?_|refine z_a ?_|refine z_b ?_|refine z_c ?_|refine z_d ?_|refine z_e ?_|refine z_f ?_|refine z_g ?_|refine z_h ?_|refine z_i ?_|refine z_j ?_|refine z_k ?_|refine z_l ?_|refine z_m (by omega) ?_|refine z_n (by omega) ?_|refine z_o (by omega) ?_|refine z_p (by omega) ?_|refine z_q (by omega) ?_|refine z_r (by omega) ?_|refine z_s (by omega) ?_|refine z_t (by omega) ?_|refine z_u (by omega) ?_|refine z_v (by omega) ?_|refine z_w (by omega) ?_|refine z_x (by omega) ?_|refine z_y (by omega) ?_|refine z_z (by omega) ?_|refine z_A ?_|refine z_B ?_|refine z_C ?_|refine z_D ?_|refine z_E ?_|refine z_F ?_|refine z_G ?_|refine z_H ?_|refine z_I ?_)
      refine bi_lss_c (fun h3 => ?_) (fun h3 => ?_)
      · have hel := h1.el _ (List.getElem_mem hi')
        obtain ⟨A2, c2, e2, _⟩ := hel.fo.slice
        have hfo := hel.fo
        rw [e2] at q0 hfo
        (repeat with_reducible first | refine fd c0 (by decide) ?_| refine ld oneRls cc1 ?_| refine ixG undRs szRl i hi' ?_| refine fdG m0 (by decide) ?_| refine ld oneIs q0 ?_|refine z_a ?_|refine z_b ?_|refine z_c ?_|refine z_d ?_|refine z_e ?_|refine z_f ?_|refine z_g ?_|refine z_h ?_|refine z_i ?_|refine z_j ?_|refine z_k ?_|refine z_l ?_|refine z_m (by omega) ?_|refine z_n (by omega) ?_|refine z_o (by omega) ?_|refine z_p (by omega) ?_|refine z_q (by omega) ?_|refine z_r (by omega) ?_|refine z_s (by omega) ?_|refine z_t (by omega) ?_|refine z_u (by omega) ?_|refine z_v (by omega) ?_|refine z_w (by omega) ?_|refine z_x (by omega) ?_|refine z_y (by omega) ?_|refine z_z (by omega) ?_|refine z_A ?_|refine z_B ?_|refine z_C ?_|refine z_D ?_|refine z_E ?_|refine z_F ?_|refine z_G ?_|refine z_H ?_|refine z_I ?_)
        refine bd (cells := #[.int .i64 ((i : Int) + 1), .slice A2 M[i].x.fs.length c2]) (by kernel_rfl) ?_
        refine hown.push hs1 (by omega) (fs := M[i].x.fs) hfo ?_
        intro v5 w5 ho5 h5
        refine hJ2 _ _ ⟨v5, _, rfl, ?_, ho5, hb1.trans h5⟩
        rw [List.map_append, hLe, thV_succ hj', if_pos (by rw [absB_get]; omega), absB_get]
        rfl
      · (repeat with_reducible first|refine z_a ?_|refine z_b ?_|refine z_c ?_|refine z_d ?_|refine z_e ?_|refine z_f ?_|refine z_g ?_|refine z_h ?_|refine z_i ?_|refine z_j ?_|refine z_k ?_|refine z_l ?_|refine z_m (by omega) ?_|refine z_n (by omega) ?_|refine z_o (by omega) ?_|refine z_p (by omega) ?_|refine z_q (by omega) ?_|refine z_r (by omega) ?_|refine z_s (by omega) ?_|refine z_t (by omega) ?_|refine z_u (by omega) ?_|refine z_v (by omega) ?_|refine z_w (by omega) ?_|refine z_x (by omega) ?_|refine z_y (by omega) ?_|refine z_z (by omega) ?_|refine z_A ?_|refine z_B ?_|refine z_C ?_|refine z_D ?_|refine z_E ?_|refine z_F ?_|refine z_G ?_|refine z_H ?_|refine z_I ?_)
        refine hJ2 _ _ ⟨ov, L, rfl, ?_, hown, hb1⟩
        rw [hLe, thV_succ hj', if_neg (by rw [absB_get]; omega), List.append_nil]
    · obtain ⟨ov', L', rfl, q1, q2, q3⟩ := hI
      dsimp only [List.headD_cons, List.tail_cons]
      (repeat with_reducible first|refine z_a ?_|refine z_b ?_|refine z_c ?_|refine z_d ?_|refine z_e ?_|refine z_f ?_|refine z_g ?_|refine z_h ?_|refine z_i ?_|refine z_j ?_|refine z_k ?_|refine z_l ?_|refine z_m (by omega) ?_|refine z_n (by omega) ?_|refine z_o (by omega) ?_|refine z_p (by omega) ?_|refine z_q (by omega) ?_|refine z_r (by omega) ?_|refine z_s (by omega) ?_|refine z_t (by omega) ?_|refine z_u (by omega) ?_|refine z_v (by omega) ?_|refine z_w (by omega) ?_|refine z_x (by omega) ?_|refine z_y (by omega) ?_|refine z_z (by omega) ?_|refine z_A ?_|refine z_B ?_|refine z_C ?_|refine z_D ?_|refine z_E ?_|refine z_F ?_|refine z_G ?_|refine z_H ?_|refine z_I ?_)
      exact hJ _ _ _ ⟨i + 1, L', by omega, by simp, q1, q2, q3⟩ (by simp [intOf]; omega)
  · have : i = M.length := by omega
    subst this
    (repeat with_reducible first|refine z_a ?_|refine z_b ?_|refine z_c ?_|refine z_d ?_|refine z_e ?_|refine z_f ?_|refine z_g ?_|refine z_h ?_|refine z_i ?_|refine z_j ?_|refine z_k ?_|refine z_l ?_|refine z_m (by omega) ?_|refine z_n (by omega) ?_|refine z_o (by omega) ?_|refine z_p (by omega) ?_|refine z_q (by omega) ?_|refine z_r (by omega) ?_|refine z_s (by omega) ?_|refine z_t (by omega) ?_|refine z_u (by omega) ?_|refine z_v (by omega) ?_|refine z_w (by omega) ?_|refine z_x (by omega) ?_|refine z_y (by omega) ?_|refine z_z (by omega) ?_|refine z_A ?_|refine z_B ?_|refine z_C ?_|refine z_D ?_|refine z_E ?_|refine z_F ?_|refine z_G ?_|refine z_H ?_|refine z_I ?_)
    rw [← absB_len (M := M), List.take_length] at hLe
    exact ⟨L, hLe, hown, hb1⟩
theorem refLeft43 (id : Int) (hid : id ≤ 9223372036854775807) (h : RbS hu c w g vn V) (hfull : ∀ x ∈ V, x.rs.length ≤ 100) :
    CallP Try.prog 43 #[.pointer (some ⟨g, 0, none⟩), .int .i64 id] (fun r w' => OwnA w.heap.size w' r (lfR V id) ∧ Below w.heap.size w w') w := by
  refine ⟨S43.calls _ _ _ _ ?_⟩
  unfold S43
  refine (refState35 id h hid).mono ?_
  rintro _ _ ⟨rfl, rfl⟩
  refine bi_neq_c (fun hs => ?_) (fun hs => ?_)
  · (repeat with_reducible first|refine z_a ?_|refine z_b ?_|refine z_c ?_|refine z_d ?_|refine z_e ?_|refine z_f ?_|refine z_g ?_|refine z_h ?_|refine z_i ?_|refine z_j ?_|refine z_k ?_|refine z_l ?_|refine z_m (by omega) ?_|refine z_n (by omega) ?_|refine z_o (by omega) ?_|refine z_p (by omega) ?_|refine z_q (by omega) ?_|refine z_r (by omega) ?_|refine z_s (by omega) ?_|refine z_t (by omega) ?_|refine z_u (by omega) ?_|refine z_v (by omega) ?_|refine z_w (by omega) ?_|refine z_x (by omega) ?_|refine z_y (by omega) ?_|refine z_z (by omega) ?_|refine z_A ?_|refine z_B ?_|refine z_C ?_|refine z_D ?_|refine z_E ?_|refine z_F ?_|refine z_G ?_|refine z_H ?_|refine z_I ?_)
    unfold lfR
    rw [if_neg hs]
    exact ⟨OwnA.nil _ _, Below.refl _ _⟩
  obtain ⟨i0, i1⟩ := stV_in (V := V) (id := id) (by omega)
  obtain ⟨vL, M, h, rfl⟩ := h
  rw [absB_len] at i1
  obtain ⟨i, hi, rfl⟩ : ∃ i : Nat, i < M.length ∧ id = i + 1 := ⟨(id - 1).toNat, by omega, by omega⟩
  have hle : lfR (absB M) ((i : Int) + 1) = M[i].x.rs.foldl mns [allR] := by
    unfold lfR
    rw [if_pos hs]
    have : ((i : Int) + 1 - 1).toNat = i := by omega
    rw [this]
    unfold absB
    rw [List.getElem?_map, List.getElem?_eq_getElem hi]
    rfl
  have hrl : M[i].x.rs.length ≤ 100 := hfull _ (List.mem_map.2 ⟨_, List.getElem_mem hi, rfl⟩)
  rw [hle]
  have e1 : ((i : Int) + 1 - 1) = (i : Int) := by omega
  (repeat with_reducible first|refine z_a ?_|refine z_b ?_|refine z_c ?_|refine z_d ?_|refine z_e ?_|refine z_f ?_|refine z_g ?_|refine z_h ?_|refine z_i ?_|refine z_j ?_|refine z_k ?_|refine z_l ?_|refine z_m (by omega) ?_|refine z_n (by omega) ?_|refine z_o (by omega) ?_|refine z_p (by omega) ?_|refine z_q (by omega) ?_|refine z_r (by omega) ?_|refine z_s (by omega) ?_|refine z_t (by omega) ?_|refine z_u (by omega) ?_|refine z_v (by omega) ?_|refine z_w (by omega) ?_|refine z_x (by omega) ?_|refine z_y (by omega) ?_|refine z_z (by omega) ?_|refine z_A ?_|refine z_B ?_|refine z_C ?_|refine z_D ?_|refine z_E ?_|refine z_F ?_|refine z_G ?_|refine z_H ?_|refine z_I ?_)
  refine bd (cells := rgA allR) (by kernel_rfl) ?_
  refine bs1R allR ?_
  intro v1 w1 ho1 hb1
  refine LoopP.inv2 (fun lv iv w' => ∃ k : Nat, k ≤ M[i].x.rs.length ∧ iv = .int .i64 k ∧ OwnA w.heap.size w' lv ((M[i].x.rs.take k).foldl mns [allR]) ∧ Below w.heap.size w w') (fun _ iv _ => M[i].x.rs.length - (intOf iv).toNat) ⟨0, by omega, rfl, ho1, hb1⟩ ?_
  rintro lv _ w2 ⟨k, hk, rfl, hown, hb2⟩ J hJ
  dsimp only [List.headD_cons, List.tail_cons]
  have h2 := h.below hb2
  have hs2 := hb2.size
  obtain ⟨gL, cL, he, _, _, q2⟩ := h2.at i hi
  subst he
  have cc2 : w2.cell? ⟨g, 0, none⟩ = some (.slice (some ⟨gL, 0, none⟩) M.length cL) := h2.blk.cell 0
  have hel := h2.el _ (List.getElem_mem hi)
  obtain ⟨A2, c2, e2, _⟩ := hel.ro.slice
  have hrd := hel.rrd
  rw [e2] at q2 hrd
  (repeat with_reducible first | refine fd c0 (by decide) ?_| refine ld oneRls cc2 ?_|refine z_a ?_|refine z_b ?_|refine z_c ?_|refine z_d ?_|refine z_e ?_|refine z_f ?_|refine z_g ?_|refine z_h ?_|refine z_i ?_|refine z_j ?_|refine z_k ?_|refine z_l ?_|refine z_m (by omega) ?_|refine z_n (by omega) ?_|refine z_o (by omega) ?_|refine z_p (by omega) ?_|refine z_q (by omega) ?_|refine z_r (by omega) ?_|refine z_s (by omega) ?_|refine z_t (by omega) ?_|refine z_u (by omega) ?_|refine z_v (by omega) ?_|refine z_w (by omega) ?_|refine z_x (by omega) ?_|refine z_y (by omega) ?_|refine z_z (by omega) ?_|refine z_A ?_|refine z_B ?_|refine z_C ?_|refine z_D ?_|refine z_E ?_|refine z_F ?_|refine z_G ?_|refine z_H ?_|refine z_I ?_)
  rw [e1]
  (repeat with_reducible first | refine ixG undRs szRl i hi ?_| refine fdG m2 (by decide) ?_| refine ld oneRgs q2 ?_|refine z_a ?_|refine z_b ?_|refine z_c ?_|refine z_d ?_|refine z_e ?_|refine z_f ?_|refine z_g ?_|refine z_h ?_|refine z_i ?_|refine z_j ?_|refine z_k ?_|refine z_l ?_|refine z_m (by omega) ?_|refine z_n (by omega) ?_|refine z_o (by omega) ?_|refine z_p (by omega) ?_|refine z_q (by omega) ?_|refine z_r (by omega) ?_|refine z_s (by omega) ?_|refine z_t (by omega) ?_|refine z_u (by omega) ?_|refine z_v (by omega) ?_|refine z_w (by omega) ?_|refine z_x (by omega) ?_|refine z_y (by omega) ?_|refine z_z (by omega) ?_|refine z_A ?_|refine z_B ?_|refine z_C ?_|refine z_D ?_|refine z_E ?_|refine z_F ?_|refine z_G ?_|refine z_H ?_|refine z_I ?_)
  refine ln und26 ?_
  refine bi_lss_c (fun hlt => ?_) (fun hlt => ?_)
  · have hk' : k < M[i].x.rs.length := by omega
    obtain ⟨a, ha, hcell⟩ := RgR.at hrd k hk'
    subst ha
    (repeat with_reducible first | refine fd c0 (by decide) ?_| refine ld oneRls cc2 ?_|refine z_a ?_|refine z_b ?_|refine z_c ?_|refine z_d ?_|refine z_e ?_|refine z_f ?_|refine z_g ?_|refine z_h ?_|refine z_i ?_|refine z_j ?_|refine z_k ?_|refine z_l ?_|refine z_m (by omega) ?_|refine z_n (by omega) ?_|refine z_o (by omega) ?_|refine z_p (by omega) ?_|refine z_q (by omega) ?_|refine z_r (by omega) ?_|refine z_s (by omega) ?_|refine z_t (by omega) ?_|refine z_u (by omega) ?_|refine z_v (by omega) ?_|refine z_w (by omega) ?_|refine z_x (by omega) ?_|refine z_y (by omega) ?_|refine z_z (by omega) ?_|refine z_A ?_|refine z_B ?_|refine z_C ?_|refine z_D ?_|refine z_E ?_|refine z_F ?_|refine z_G ?_|refine z_H ?_|refine z_I ?_)
    rw [e1]
    (repeat with_reducible first | refine ixG undRs szRl i hi ?_| refine fdG m2 (by decide) ?_| refine ld oneRgs q2 ?_| refine ixN und26 sz23 k hk' ?_|refine z_a ?_|refine z_b ?_|refine z_c ?_|refine z_d ?_|refine z_e ?_|refine z_f ?_|refine z_g ?_|refine z_h ?_|refine z_i ?_|refine z_j ?_|refine z_k ?_|refine z_l ?_|refine z_m (by omega) ?_|refine z_n (by omega) ?_|refine z_o (by omega) ?_|refine z_p (by omega) ?_|refine z_q (by omega) ?_|refine z_r (by omega) ?_|refine z_s (by omega) ?_|refine z_t (by omega) ?_|refine z_u (by omega) ?_|refine z_v (by omega) ?_|refine z_w (by omega) ?_|refine z_x (by omega) ?_|refine z_y (by omega) ?_|refine z_z (by omega) ?_|refine z_A ?_|refine z_B ?_|refine z_C ?_|refine z_D ?_|refine z_E ?_|refine z_F ?_|refine z_G ?_|refine z_H ?_|refine z_I ?_)
    refine ldR (us := rgF M[i].x.rs[k]) agg23 hcell (by rw [sz23]; rfl) ?_
    have hlen : ((M[i].x.rs.take k).foldl mns [allR]).length ≤ k + 1 := by
      have : ∀ (m : List Rg) (l : List Rg), Canon l → (m.foldl mns l).length ≤ l.length + m.length := by
        intro m
        induction m with
        | nil => intro l _; simp
        | cons r m ih =>
          intro l hl
          have h1 := mns_len hl r
          have h2 := ih (mns l r) (mns_spec l r).1
          rw [List.foldl_cons, List.length_cons]
          omega
      have := this (M[i].x.rs.take k) [allR] canon_all
      rw [List.length_take] at this
      simp only [List.length_cons, List.length_nil] at this
      omega
    refine (minus22 lv _ M[i].x.rs[k] (by omega) w2 hown.rd).mono ?_
    rintro v3 w3 ⟨out, hout, ho3, h3⟩
    have := hout.eq
    subst this
    (repeat with_reducible first|refine z_a ?_|refine z_b ?_|refine z_c ?_|refine z_d ?_|refine z_e ?_|refine z_f ?_|refine z_g ?_|refine z_h ?_|refine z_i ?_|refine z_j ?_|refine z_k ?_|refine z_l ?_|refine z_m (by omega) ?_|refine z_n (by omega) ?_|refine z_o (by omega) ?_|refine z_p (by omega) ?_|refine z_q (by omega) ?_|refine z_r (by omega) ?_|refine z_s (by omega) ?_|refine z_t (by omega) ?_|refine z_u (by omega) ?_|refine z_v (by omega) ?_|refine z_w (by omega) ?_|refine z_x (by omega) ?_|refine z_y (by omega) ?_|refine z_z (by omega) ?_|refine z_A ?_|refine z_B ?_|refine z_C ?_|refine z_D ?_|refine z_E ?_|refine z_F ?_|refine z_G ?_|refine z_H ?_|refine z_I ?_)
    refine hJ _ _ _ ⟨k + 1, by omega, by simp, ?_, below_then hb2 h3⟩ (by simp [intOf]; omega)
    rw [List.take_succ_eq_append_getElem hk', List.foldl_append]
    exact ho3.mono hs2
  · have : k = M[i].x.rs.length := by omega
    subst this
    rw [List.take_length] at hown
    (repeat with_reducible first|refine z_a ?_|refine z_b ?_|refine z_c ?_|refine z_d ?_|refine z_e ?_|refine z_f ?_|refine z_g ?_|refine z_h ?_|refine z_i ?_|refine z_j ?_|refine z_k ?_|refine z_l ?_|refine z_m (by omega) ?_|refine z_n (by omega) ?_|refine z_o (by omega) ?_|refine z_p (by omega) ?_|refine z_q (by omega) ?_|refine z_r (by omega) ?_|refine z_s (by omega) ?_|refine z_t (by omega) ?_|refine z_u (by omega) ?_|refine z_v (by omega) ?_|refine z_w (by omega) ?_|refine z_x (by omega) ?_|refine z_y (by omega) ?_|refine z_z (by omega) ?_|refine z_A ?_|refine z_B ?_|refine z_C ?_|refine z_D ?_|refine z_E ?_|refine z_F ?_|refine z_G ?_|refine z_H ?_|refine z_I ?_)
    exact ⟨hown, hb2⟩
end
theorem xg0 {a : Addr} {w : World} {us : List Value} {x : Int × List Int} {vf : Value} (hus : us = [.int .i64 x.1, vf]) (hc : ∀ j u, us[j]? = some u → w.cell? (a.add j) = some u) : w.cell? (a.add 0) = some (.int .i64 x.1) ∧ w.cell? (a.add 1) = some vf := by
  subst hus
  exact ⟨hc 0 _ rfl, hc 1 _ rfl⟩
theorem sameIndexes38 (v v' : Value) (l l' : List (Int × List Int)) (w : World) (hv : IxR w [v] l) (hv' : IxR w [v'] l') : CallP Try.prog 38 #[v, v'] (fun r w' => r = .bool (decide (l = l')) ∧ Below w.heap.size w w') w := by
  obtain ⟨A, c, rfl, hc, hm⟩ := hv.slice
  obtain ⟨A', c', rfl, hc', hm'⟩ := hv'.slice
  refine ⟨S38.calls _ _ _ _ ?_⟩
  unfold S38
  refine ln undXs ?_
  refine ln undXs ?_
  refine bi_neq_c (fun h => ?_) (fun he => ?_)
  · (repeat with_reducible first|refine z_a ?_|refine z_b ?_|refine z_c ?_|refine z_d ?_|refine z_e ?_|refine z_f ?_|refine z_g ?_|refine z_h ?_|refine z_i ?_|refine z_j ?_|refine z_k ?_|refine z_l ?_|refine z_m (by omega) ?_|refine z_n (by omega) ?_|refine z_o (by omega) ?_|refine z_p (by omega) ?_|refine z_q (by omega) ?_|refine z_r (by omega) ?_|refine z_s (by omega) ?_|refine z_t (by omega) ?_|refine z_u (by omega) ?_|refine z_v (by omega) ?_|refine z_w (by omega) ?_|refine z_x (by omega) ?_|refine z_y (by omega) ?_|refine z_z (by omega) ?_|refine z_A ?_|refine z_B ?_|refine z_C ?_|refine z_D ?_|refine z_E ?_|refine z_F ?_|refine z_G ?_|refine z_H ?_|refine z_I ?_)
    exact ⟨fB fun e => h (by rw [e]), Below.refl _ _⟩
  have he : l.length = l'.length := by omega
  (repeat with_reducible first|refine z_a ?_|refine z_b ?_|refine z_c ?_|refine z_d ?_|refine z_e ?_|refine z_f ?_|refine z_g ?_|refine z_h ?_|refine z_i ?_|refine z_j ?_|refine z_k ?_|refine z_l ?_|refine z_m (by omega) ?_|refine z_n (by omega) ?_|refine z_o (by omega) ?_|refine z_p (by omega) ?_|refine z_q (by omega) ?_|refine z_r (by omega) ?_|refine z_s (by omega) ?_|refine z_t (by omega) ?_|refine z_u (by omega) ?_|refine z_v (by omega) ?_|refine z_w (by omega) ?_|refine z_x (by omega) ?_|refine z_y (by omega) ?_|refine z_z (by omega) ?_|refine z_A ?_|refine z_B ?_|refine z_C ?_|refine z_D ?_|refine z_E ?_|refine z_F ?_|refine z_G ?_|refine z_H ?_|refine z_I ?_)
  refine LoopP.inv1 (fun iv w' => ∃ k : Nat, k ≤ l.length ∧ iv = .int .i64 k ∧ l.take k = l'.take k ∧ Below w.heap.size w w') (fun iv _ => l.length - (intOf iv).toNat) ⟨0, by omega, rfl, rfl, Below.refl _ _⟩ ?_
  rintro _ w1 ⟨k, hk, rfl, ht, hb1⟩ J hJ
  dsimp only [List.headD_cons, List.tail_cons]
  refine ln undXs ?_
  refine bi_lss_c (fun h => ?_) (fun h => ?_)
  · have hk' : k < l.length := by omega
    have hk2 : k < l'.length := by omega
    have hdr : Below w1.heap.size w1 w1.drew := (Below.refl _ _).drew
    obtain ⟨a, us, rfl, _, hcell, vf, hus, hrd⟩ := rRow.at (keeps_IxR _ _ _ _ hb1 hv) k hk'
    obtain ⟨a', us', rfl, _, hcell', vf', hus', hrd'⟩ := rRow.at (keeps_IxR _ _ _ _ hb1 hv') k hk2
    obtain ⟨p0, p1⟩ := xg0 hus hcell
    obtain ⟨p0', p1'⟩ := xg0 hus' hcell'
    obtain ⟨B, d, rfl, hd, hdm⟩ := hrd.slice
    obtain ⟨B', d', rfl, hd', hdm'⟩ := hrd'.slice
    have hln : (iV l[k].2).length = l[k].2.length := List.length_map _
    have hln' : (iV l'[k].2).length = l'[k].2.length := List.length_map _
    rw [hln] at p1 hrd
    rw [hln'] at p1' hrd'
    (repeat with_reducible first|refine z_a ?_|refine z_b ?_|refine z_c ?_|refine z_d ?_|refine z_e ?_|refine z_f ?_|refine z_g ?_|refine z_h ?_|refine z_i ?_|refine z_j ?_|refine z_k ?_|refine z_l ?_|refine z_m (by omega) ?_|refine z_n (by omega) ?_|refine z_o (by omega) ?_|refine z_p (by omega) ?_|refine z_q (by omega) ?_|refine z_r (by omega) ?_|refine z_s (by omega) ?_|refine z_t (by omega) ?_|refine z_u (by omega) ?_|refine z_v (by omega) ?_|refine z_w (by omega) ?_|refine z_x (by omega) ?_|refine z_y (by omega) ?_|refine z_z (by omega) ?_|refine z_A ?_|refine z_B ?_|refine z_C ?_|refine z_D ?_|refine z_E ?_|refine z_F ?_|refine z_G ?_|refine z_H ?_|refine z_I ?_)
    refine draw (Below w1.heap.size w1) hdr ?_
    (repeat with_reducible first | refine yixA undXs szX k hk' ?_| refine yixA undXs szX k hk2 ?_| refine yfdA x0 (by decide) ?_| refine yl1 oneI (RdKeep p0) ?_| refine yl1 oneI (RdKeep p0') ?_|refine z_J ?_|refine z_a ?_|refine z_b ?_|refine z_c ?_|refine z_d ?_|refine z_e ?_|refine z_f ?_|refine z_g ?_|refine z_h ?_|refine z_i ?_|refine z_j ?_|refine z_k ?_|refine z_l ?_|refine z_K (by omega) ?_|refine z_L (by omega) ?_|refine z_M (by omega) ?_|refine z_N (by omega) ?_|refine z_O (by omega) ?_|refine z_P (by omega) ?_|refine z_Q (by omega) ?_|refine z_R (by omega) ?_|refine z_S (by omega) ?_|refine z_T (by omega) ?_|refine z_U (by omega) ?_|refine z_V (by omega) ?_|refine z_W (by omega) ?_|refine z_X (by omega) ?_|refine z_Y ?_|refine z_Z ?_|refine z_a1 ?_|refine z_b1 ?_|refine z_c1 ?_|refine z_d1 ?_|refine z_e1 ?_|refine z_f1 ?_|refine z_g1 ?_)
    refine yi_neq_c (fun hn => ?_) (fun hn => ?_)
    · (repeat with_reducible first|refine z_J ?_|refine z_a ?_|refine z_b ?_|refine z_c ?_|refine z_d ?_|refine z_e ?_|refine z_f ?_|refine z_g ?_|refine z_h ?_|refine z_i ?_|refine z_j ?_|refine z_k ?_|refine z_l ?_|refine z_K (by omega) ?_|refine z_L (by omega) ?_|refine z_M (by omega) ?_|refine z_N (by omega) ?_|refine z_O (by omega) ?_|refine z_P (by omega) ?_|refine z_Q (by omega) ?_|refine z_R (by omega) ?_|refine z_S (by omega) ?_|refine z_T (by omega) ?_|refine z_U (by omega) ?_|refine z_V (by omega) ?_|refine z_W (by omega) ?_|refine z_X (by omega) ?_|refine z_Y ?_|refine z_Z ?_|refine z_a1 ?_|refine z_b1 ?_|refine z_c1 ?_|refine z_d1 ?_|refine z_e1 ?_|refine z_f1 ?_|refine z_g1 ?_)
      (repeat with_reducible first|refine z_a ?_|refine z_b ?_|refine z_c ?_|refine z_d ?_|refine z_e ?_|refine z_f ?_|refine z_g ?_|refine z_h ?_|refine z_i ?_|refine z_j ?_|refine z_k ?_|refine z_l ?_|refine z_m (by omega) ?_|refine z_n (by omega) ?_|refine z_o (by omega) ?_|refine z_p (by omega) ?_|refine z_q (by omega) ?_|refine z_r (by omega) ?_|refine z_s (by omega) ?_|refine z_t (by omega) ?_|refine z_u (by omega) ?_|refine z_v (by omega) ?_|refine z_w (by omega) ?_|refine z_x (by omega) ?_|refine z_y (by omega) ?_|refine z_z (by omega) ?_|refine z_A ?_|refine z_B ?_|refine z_C ?_|refine z_D ?_|refine z_E ?_|refine z_F ?_|refine z_G ?_|refine z_H ?_|refine z_I ?_)
      exact ⟨fB fun e => hn (by simp only [e]), below_then hb1 hdr⟩
    (repeat with_reducible first | refine yixA undXs szX k hk' ?_| refine yixA undXs szX k hk2 ?_| refine yfdA x1 (by decide) ?_| refine yl1 oneIs (RdKeep p1) ?_| refine yl1 oneIs (RdKeep p1') ?_| refine yln undIs ?_|refine z_J ?_|refine z_a ?_|refine z_b ?_|refine z_c ?_|refine z_d ?_|refine z_e ?_|refine z_f ?_|refine z_g ?_|refine z_h ?_|refine z_i ?_|refine z_j ?_|refine z_k ?_|refine z_l ?_|refine z_K (by omega) ?_|refine z_L (by omega) ?_|refine z_M (by omega) ?_|refine z_N (by omega) ?_|refine z_O (by omega) ?_|refine z_P (by omega) ?_|refine z_Q (by omega) ?_|refine z_R (by omega) ?_|refine z_S (by omega) ?_|refine z_T (by omega) ?_|refine z_U (by omega) ?_|refine z_V (by omega) ?_|refine z_W (by omega) ?_|refine z_X (by omega) ?_|refine z_Y ?_|refine z_Z ?_|refine z_a1 ?_|refine z_b1 ?_|refine z_c1 ?_|refine z_d1 ?_|refine z_e1 ?_|refine z_f1 ?_|refine z_g1 ?_)
    refine yi_neq_c (fun hn2 => ?_) (fun hn2 => ?_)
    · (repeat with_reducible first|refine z_J ?_|refine z_a ?_|refine z_b ?_|refine z_c ?_|refine z_d ?_|refine z_e ?_|refine z_f ?_|refine z_g ?_|refine z_h ?_|refine z_i ?_|refine z_j ?_|refine z_k ?_|refine z_l ?_|refine z_K (by omega) ?_|refine z_L (by omega) ?_|refine z_M (by omega) ?_|refine z_N (by omega) ?_|refine z_O (by omega) ?_|refine z_P (by omega) ?_|refine z_Q (by omega) ?_|refine z_R (by omega) ?_|refine z_S (by omega) ?_|refine z_T (by omega) ?_|refine z_U (by omega) ?_|refine z_V (by omega) ?_|refine z_W (by omega) ?_|refine z_X (by omega) ?_|refine z_Y ?_|refine z_Z ?_|refine z_a1 ?_|refine z_b1 ?_|refine z_c1 ?_|refine z_d1 ?_|refine z_e1 ?_|refine z_f1 ?_|refine z_g1 ?_)
      (repeat with_reducible first|refine z_a ?_|refine z_b ?_|refine z_c ?_|refine z_d ?_|refine z_e ?_|refine z_f ?_|refine z_g ?_|refine z_h ?_|refine z_i ?_|refine z_j ?_|refine z_k ?_|refine z_l ?_|refine z_m (by omega) ?_|refine z_n (by omega) ?_|refine z_o (by omega) ?_|refine z_p (by omega) ?_|refine z_q (by omega) ?_|refine z_r (by omega) ?_|refine z_s (by omega) ?_|refine z_t (by omega) ?_|refine z_u (by omega) ?_|refine z_v (by omega) ?_|refine z_w (by omega) ?_|refine z_x (by omega) ?_|refine z_y (by omega) ?_|refine z_z (by omega) ?_|refine z_A ?_|refine z_B ?_|refine z_C ?_|refine z_D ?_|refine z_E ?_|refine z_F ?_|refine z_G ?_|refine z_H ?_|refine z_I ?_)
      exact ⟨fB fun e => hn2 (by simp only [e]), below_then hb1 hdr⟩
    (repeat with_reducible first|refine z_J ?_|refine z_a ?_|refine z_b ?_|refine z_c ?_|refine z_d ?_|refine z_e ?_|refine z_f ?_|refine z_g ?_|refine z_h ?_|refine z_i ?_|refine z_j ?_|refine z_k ?_|refine z_l ?_|refine z_K (by omega) ?_|refine z_L (by omega) ?_|refine z_M (by omega) ?_|refine z_N (by omega) ?_|refine z_O (by omega) ?_|refine z_P (by omega) ?_|refine z_Q (by omega) ?_|refine z_R (by omega) ?_|refine z_S (by omega) ?_|refine z_T (by omega) ?_|refine z_U (by omega) ?_|refine z_V (by omega) ?_|refine z_W (by omega) ?_|refine z_X (by omega) ?_|refine z_Y ?_|refine z_Z ?_|refine z_a1 ?_|refine z_b1 ?_|refine z_c1 ?_|refine z_d1 ?_|refine z_e1 ?_|refine z_f1 ?_|refine z_g1 ?_)
    (repeat with_reducible first|refine z_a ?_|refine z_b ?_|refine z_c ?_|refine z_d ?_|refine z_e ?_|refine z_f ?_|refine z_g ?_|refine z_h ?_|refine z_i ?_|refine z_j ?_|refine z_k ?_|refine z_l ?_|refine z_m (by omega) ?_|refine z_n (by omega) ?_|refine z_o (by omega) ?_|refine z_p (by omega) ?_|refine z_q (by omega) ?_|refine z_r (by omega) ?_|refine z_s (by omega) ?_|refine z_t (by omega) ?_|refine z_u (by omega) ?_|refine z_v (by omega) ?_|refine z_w (by omega) ?_|refine z_x (by omega) ?_|refine z_y (by omega) ?_|refine z_z (by omega) ?_|refine z_A ?_|refine z_B ?_|refine z_C ?_|refine z_D ?_|refine z_E ?_|refine z_F ?_|refine z_G ?_|refine z_H ?_|refine z_I ?_)
    have hl2 : l[k].2.length = l'[k].2.length := by omega
    refine LoopP.inv1 (fun iv w' => ∃ j : Nat, j ≤ l[k].2.length ∧ iv = .int .i64 j ∧ l[k].2.take j = l'[k].2.take j ∧ Below w1.heap.size w1 w') (fun iv _ => l[k].2.length - (intOf iv).toNat) ⟨0, by omega, rfl, rfl, hdr⟩ ?_
    rintro _ w2 ⟨j, hj, rfl, htj, hb2⟩ J2 hJ2
    dsimp only [List.headD_cons, List.tail_cons]
    (repeat with_reducible first | refine ixN undXs szX k hk' ?_| refine fdA x1 (by decide) ?_| refine ld oneIs (RdKeep p1 _ hb2) ?_| refine ln undIs ?_|refine z_a ?_|refine z_b ?_|refine z_c ?_|refine z_d ?_|refine z_e ?_|refine z_f ?_|refine z_g ?_|refine z_h ?_|refine z_i ?_|refine z_j ?_|refine z_k ?_|refine z_l ?_|refine z_m (by omega) ?_|refine z_n (by omega) ?_|refine z_o (by omega) ?_|refine z_p (by omega) ?_|refine z_q (by omega) ?_|refine z_r (by omega) ?_|refine z_s (by omega) ?_|refine z_t (by omega) ?_|refine z_u (by omega) ?_|refine z_v (by omega) ?_|refine z_w (by omega) ?_|refine z_x (by omega) ?_|refine z_y (by omega) ?_|refine z_z (by omega) ?_|refine z_A ?_|refine z_B ?_|refine z_C ?_|refine z_D ?_|refine z_E ?_|refine z_F ?_|refine z_G ?_|refine z_H ?_|refine z_I ?_)
    refine bi_lss_c (fun h2 => ?_) (fun h2 => ?_)
    · have hj' : j < l[k].2.length := by omega
      have hj2 : j < l'[k].2.length := by omega
      have hdr2 : Below w2.heap.size w2 w2.drew := (Below.refl _ _).drew
      obtain ⟨b, rfl, hcb⟩ := Rd.atI hrd j hj'
      obtain ⟨b', rfl, hcb'⟩ := Rd.atI hrd' j hj2
      (repeat with_reducible first|refine z_a ?_|refine z_b ?_|refine z_c ?_|refine z_d ?_|refine z_e ?_|refine z_f ?_|refine z_g ?_|refine z_h ?_|refine z_i ?_|refine z_j ?_|refine z_k ?_|refine z_l ?_|refine z_m (by omega) ?_|refine z_n (by omega) ?_|refine z_o (by omega) ?_|refine z_p (by omega) ?_|refine z_q (by omega) ?_|refine z_r (by omega) ?_|refine z_s (by omega) ?_|refine z_t (by omega) ?_|refine z_u (by omega) ?_|refine z_v (by omega) ?_|refine z_w (by omega) ?_|refine z_x (by omega) ?_|refine z_y (by omega) ?_|refine z_z (by omega) ?_|refine z_A ?_|refine z_B ?_|refine z_C ?_|refine z_D ?_|refine z_E ?_|refine z_F ?_|refine z_G ?_|refine z_H ?_|refine z_I ?_)
      refine draw (Below w1.heap.size w1) (below_then hb2 hdr2) ?_
      (repeat with_reducible first | refine yixA undXs szX k hk' ?_| refine yixA undXs szX k hk2 ?_| refine yfdA x1 (by decide) ?_| refine yl1 oneIs (RdKeep p1) ?_| refine yl1 oneIs (RdKeep p1') ?_| refine yix1 undIs szI j hj' ?_| refine yl1 oneI (RdKeep hcb) ?_| refine yix1 undIs szI j hj2 ?_| refine yl1 oneI (RdKeep hcb') ?_|refine z_J ?_|refine z_a ?_|refine z_b ?_|refine z_c ?_|refine z_d ?_|refine z_e ?_|refine z_f ?_|refine z_g ?_|refine z_h ?_|refine z_i ?_|refine z_j ?_|refine z_k ?_|refine z_l ?_|refine z_K (by omega) ?_|refine z_L (by omega) ?_|refine z_M (by omega) ?_|refine z_N (by omega) ?_|refine z_O (by omega) ?_|refine z_P (by omega) ?_|refine z_Q (by omega) ?_|refine z_R (by omega) ?_|refine z_S (by omega) ?_|refine z_T (by omega) ?_|refine z_U (by omega) ?_|refine z_V (by omega) ?_|refine z_W (by omega) ?_|refine z_X (by omega) ?_|refine z_Y ?_|refine z_Z ?_|refine z_a1 ?_|refine z_b1 ?_|refine z_c1 ?_|refine z_d1 ?_|refine z_e1 ?_|refine z_f1 ?_|refine z_g1 ?_)
      refine yi_neq_c (fun hn3 => ?_) (fun hn3 => ?_)
      · (repeat with_reducible first|refine z_J ?_|refine z_a ?_|refine z_b ?_|refine z_c ?_|refine z_d ?_|refine z_e ?_|refine z_f ?_|refine z_g ?_|refine z_h ?_|refine z_i ?_|refine z_j ?_|refine z_k ?_|refine z_l ?_|refine z_K (by omega) ?_|refine z_L (by omega) ?_|refine z_M (by omega) ?_|refine z_N (by omega) ?_|refine z_O (by omega) ?_|refine z_P (by omega) ?_|refine z_Q (by omega) ?_|refine z_R (by omega) ?_|refine z_S (by omega) ?_|refine z_T (by omega) ?_|refine z_U (by omega) ?_|refine z_V (by omega) ?_|refine z_W (by omega) ?_|refine z_X (by omega) ?_|refine z_Y ?_|refine z_Z ?_|refine z_a1 ?_|refine z_b1 ?_|refine z_c1 ?_|refine z_d1 ?_|refine z_e1 ?_|refine z_f1 ?_|refine z_g1 ?_)
        (repeat with_reducible first|refine z_a ?_|refine z_b ?_|refine z_c ?_|refine z_d ?_|refine z_e ?_|refine z_f ?_|refine z_g ?_|refine z_h ?_|refine z_i ?_|refine z_j ?_|refine z_k ?_|refine z_l ?_|refine z_m (by omega) ?_|refine z_n (by omega) ?_|refine z_o (by omega) ?_|refine z_p (by omega) ?_|refine z_q (by omega) ?_|refine z_r (by omega) ?_|refine z_s (by omega) ?_|refine z_t (by omega) ?_|refine z_u (by omega) ?_|refine z_v (by omega) ?_|refine z_w (by omega) ?_|refine z_x (by omega) ?_|refine z_y (by omega) ?_|refine z_z (by omega) ?_|refine z_A ?_|refine z_B ?_|refine z_C ?_|refine z_D ?_|refine z_E ?_|refine z_F ?_|refine z_G ?_|refine z_H ?_|refine z_I ?_)
        refine ⟨fB fun e => hn3 ?_, below_then hb1 (below_then hb2 hdr2)⟩
        simp only [e]
      · (repeat with_reducible first|refine z_J ?_|refine z_a ?_|refine z_b ?_|refine z_c ?_|refine z_d ?_|refine z_e ?_|refine z_f ?_|refine z_g ?_|refine z_h ?_|refine z_i ?_|refine z_j ?_|refine z_k ?_|refine z_l ?_|refine z_K (by omega) ?_|refine z_L (by omega) ?_|refine z_M (by omega) ?_|refine z_N (by omega) ?_|refine z_O (by omega) ?_|refine z_P (by omega) ?_|refine z_Q (by omega) ?_|refine z_R (by omega) ?_|refine z_S (by omega) ?_|refine z_T (by omega) ?_|refine z_U (by omega) ?_|refine z_V (by omega) ?_|refine z_W (by omega) ?_|refine z_X (by omega) ?_|refine z_Y ?_|refine z_Z ?_|refine z_a1 ?_|refine z_b1 ?_|refine z_c1 ?_|refine z_d1 ?_|refine z_e1 ?_|refine z_f1 ?_|refine z_g1 ?_)
        (repeat with_reducible first|refine z_a ?_|refine z_b ?_|refine z_c ?_|refine z_d ?_|refine z_e ?_|refine z_f ?_|refine z_g ?_|refine z_h ?_|refine z_i ?_|refine z_j ?_|refine z_k ?_|refine z_l ?_|refine z_m (by omega) ?_|refine z_n (by omega) ?_|refine z_o (by omega) ?_|refine z_p (by omega) ?_|refine z_q (by omega) ?_|refine z_r (by omega) ?_|refine z_s (by omega) ?_|refine z_t (by omega) ?_|refine z_u (by omega) ?_|refine z_v (by omega) ?_|refine z_w (by omega) ?_|refine z_x (by omega) ?_|refine z_y (by omega) ?_|refine z_z (by omega) ?_|refine z_A ?_|refine z_B ?_|refine z_C ?_|refine z_D ?_|refine z_E ?_|refine z_F ?_|refine z_G ?_|refine z_H ?_|refine z_I ?_)
        refine hJ2 _ _ ⟨j + 1, by omega, by simp, ?_, below_then hb2 hdr2⟩ (by simp [intOf]; omega)
        rw [List.take_succ_eq_append_getElem hj', List.take_succ_eq_append_getElem hj2, htj, hn3]
    · have : j = l[k].2.length := by omega
      subst this
      rw [List.take_length, hl2, List.take_length] at htj
      (repeat with_reducible first|refine z_a ?_|refine z_b ?_|refine z_c ?_|refine z_d ?_|refine z_e ?_|refine z_f ?_|refine z_g ?_|refine z_h ?_|refine z_i ?_|refine z_j ?_|refine z_k ?_|refine z_l ?_|refine z_m (by omega) ?_|refine z_n (by omega) ?_|refine z_o (by omega) ?_|refine z_p (by omega) ?_|refine z_q (by omega) ?_|refine z_r (by omega) ?_|refine z_s (by omega) ?_|refine z_t (by omega) ?_|refine z_u (by omega) ?_|refine z_v (by omega) ?_|refine z_w (by omega) ?_|refine z_x (by omega) ?_|refine z_y (by omega) ?_|refine z_z (by omega) ?_|refine z_A ?_|refine z_B ?_|refine z_C ?_|refine z_D ?_|refine z_E ?_|refine z_F ?_|refine z_G ?_|refine z_H ?_|refine z_I ?_)
      refine hJ _ _ ⟨k + 1, by omega, by simp, ?_, below_then hb1 hb2⟩ (by simp [intOf]; omega)
      rw [List.take_succ_eq_append_getElem hk', List.take_succ_eq_append_getElem hk2, ht]
      congr 2
      exact Prod.ext hn htj
  · have : k = l.length := by omega
    subst this
    rw [List.take_length, he, List.take_length] at ht
    (repeat with_reducible first|refine z_a ?_|refine z_b ?_|refine z_c ?_|refine z_d ?_|refine z_e ?_|refine z_f ?_|refine z_g ?_|refine z_h ?_|refine z_i ?_|refine z_j ?_|refine z_k ?_|refine z_l ?_|refine z_m (by omega) ?_|refine z_n (by omega) ?_|refine z_o (by omega) ?_|refine z_p (by omega) ?_|refine z_q (by omega) ?_|refine z_r (by omega) ?_|refine z_s (by omega) ?_|refine z_t (by omega) ?_|refine z_u (by omega) ?_|refine z_v (by omega) ?_|refine z_w (by omega) ?_|refine z_x (by omega) ?_|refine z_y (by omega) ?_|refine z_z (by omega) ?_|refine z_A ?_|refine z_B ?_|refine z_C ?_|refine z_D ?_|refine z_E ?_|refine z_F ?_|refine z_G ?_|refine z_H ?_|refine z_I ?_)
    exact ⟨tB ht, hb1⟩
end Go.Proofs.Ytcfncjejpjjhdaa.E
namespace Go.Proofs.Ytcfncjejpjjhdaa.E
open Go Go.RowKit
set_option linter.unusedSimpArgs false
set_option linter.unusedVariables false

section
variable {P : Program} {S : World → Prop}
theorem ybd {K : Value → World → Prop} {w : World} {t : TypeId} {parts : Array (Nat × Value)} {cells : Array Value} (h : P.built t parts.toList = some cells) (k : K (.agg cells) w) : YieldP P S (Instr.build t parts) K w := yld (fun w' _ => run_build w' t parts cells h) k
/-- append(v, x) in a region that draws. -/
theorem apOneA {K : (World → Prop) → Value → World → Prop} {w : World} {t ty e : TypeId} {cs : Array Bool} {z : Value} {size bytes : Nat} (ht : P.underlying t = some (.slice e)) (hinfo : (P.info? e).map (fun i => (i.zero, i.size, i.bytes)) = some (some z, size, bytes)) (hz : z.cells.size = size) (hsz : 0 < size)
    {v : Value} {xs : List Value} {n : Nat} (hown : w.ownsRow 0 e size v n xs) {us : List Value} (hl : us.length = size) (h1 : ∀ u ∈ us, u.oneCell' = true) (h63 : n + 1 ≤ 9223372036854775807) (hbytes : (n + 1) * bytes ≤ 140737488355328)
    (hb : (Instr.buildSlice t 1 #[(0, .agg us.toArray)]).run P w = .ok (.slice (some ⟨w.heap.size, 0, none⟩) 1 1) (w.alloc (.cells us.toArray e)))
    (hS : ∀ w', Below w.heap.size w w' → S w')
    (k : ∀ v' w', w'.ownsRow 0 e size v' (n + 1) (xs ++ us) → (v'.ownBlock = v.ownBlock ∨ ∃ b, v'.ownBlock = some b ∧ w.heap.size ≤ b) → Turns (fun j => v.ownBlock = some j) w w' → ∃ S' : World → Prop, S' w' ∧ (∀ x, S' x → S x) ∧ K S' v' w') :
    ActP S (fun K w => LiftP P (Instr.buildSlice t 1 #[(0, .agg us.toArray)]) K w) (fun S u w => ActP S (fun K w => NextP P (builtin .append #[t, t] ty cs #[v, u]) K w) K w) w := by
  refine act (lift hb ?_)
  have hB := Blk.new w e us.toArray
  have ha := (Below.refl w.heap.size w).alloc (Nat.le_refl _) (.cells us.toArray e)
  have hs := ha.size
  refine ⟨S, hS _ ha, fun _ h => h, act ?_⟩
  refine apGb ht hinfo hz hsz (ownsRow_turns hown (Turns.of_below (F := fun _ => False) ha) (fun _ _ h => h)) (a := ⟨w.heap.size, 0, none⟩) (m := 1) (c := 1) (news := us) (by rw [hl, Nat.one_mul]) (fun j u hu => by
    rw [add0, Nat.zero_add, hB.cell j]
    simpa using hu) h1 h63 hbytes ?_
  intro v' w' ho hbl hT
  exact k v' w' ho (hbl.imp id fun h => ⟨_, h, hs⟩) ((Turns.of_below ha).trans (hT.mono fun j _ e => .inl e))
end
section
variable {tl : TypeId} {hu : Nat} {c : Nat → Nat} {w : World} {g : Nat} {vL : Value} {n : Int} {M : List Lm} {V : BdV}
theorem LnsAt.okc {gL cL : Nat} (h : LnsAt tl hu c w (.slice (some ⟨gL, 0, none⟩) M.length cL) M) (i : Nat) (hi : i < M.length) (j : Nat) (hj : j < 3) : (w.cell? ⟨gL, i * 3 + j, none⟩).isSome = true ∧ w.frozen? ⟨gL, i * 3 + j, none⟩ = false := by
  obtain ⟨g', u, he, _, h1, h2⟩ := (OwnR.of_own h.row).at (i * 3 + j) (by omega)
  cases he
  exact ⟨by rw [h1]; rfl, h2⟩
theorem mem_set {α : Type} {l : List α} {i : Nat} {x y : α} (h : y ∈ l.set i x) : y = x ∨ y ∈ l := by
  rcases List.mem_or_eq_of_mem_set h with h | h
  · exact .inr h
  · exact .inl h
/-- One cell of a row of indexes is set. -/
theorem LnsAt.setC {gL cL : Nat} (h : LnsAt tl hu c w (.slice (some ⟨gL, 0, none⟩) M.length cL) M) (i : Nat) (hi : i < M.length) (j : Nat) (hj : j < 3) (u : Value) (y : Lm) (hy : lmF y = (lmF M[i]).set j u) (hyA : LmAt c w y) :
    LnsAt tl hu c (w.setCell ⟨gL, i * 3 + j, none⟩ u) (.slice (some ⟨gL, 0, none⟩) M.length cL) (M.set i y) ∧ Turns (fun k => c k = hu) w (w.setCell ⟨gL, i * 3 + j, none⟩ u) := by
  have hT := Turns.setCell (F := fun k => c k = hu) (p := ⟨gL, i * 3 + j, none⟩) (Turns.refl _ w) (.inl (h.hue gL rfl)) u
  have hh := h.hh
  refine ⟨⟨h.hh, ?_, h.hue, fun m hm => ?_⟩, hT⟩
  · have := ownsRow_set h.row (i * 3 + j) u
    rw [flatMap_set lmF 3 lmF_len M i j M[i] y u (List.getElem?_eq_getElem hi) hj hy] at this
    rw [List.length_set]
    exact this
  · have hm' : LmAt c w m := by
      rcases mem_set hm with rfl | hm
      · exact hyA
      · exact h.el m hm
    exact hm'.turns hT fun k hk => by rw [hk]; omega
theorem bd_ne {s : Nat} {e t : TypeId} {n' : Nat} {xs : List Value} {cs : Array Value} {v : Value} (h : w.ownsRow 0 e s v n' xs) (h' : Blk w g t cs) (ht : e ≠ t) {gL : Nat} (hg : v.ownBlock = some gL) : g ≠ gL := fun e1 => by
  subst e1
  rcases h.2 with ⟨rfl, _⟩ | ⟨g', c', cur, rfl, _, hb', _⟩
  · cases hg
  · have e2 : g' = g := by simpa [Value.ownBlock] using hg
    subst e2
    have := h'.symm.trans hb'
    simp only [Option.some.injEq, Obj.cells.injEq] at this
    exact ht this.2.1.symm
theorem Turns.stepC {c c1 : Nat → Nat} {w w1 w2 : World} (h : Turns (fun k => c k = hu) w w1) (hc : ∀ k, k < w.heap.size → c1 k = c k) (k : Turns (fun k => c1 k = hu) w1 w2) : Turns (fun k => c k = hu) w w2 :=
  h.trans (k.mono fun j _ e => by
    rcases Nat.lt_or_ge j w.heap.size with hlt | hge
    · exact .inl (by show c j = hu; rw [← hc j hlt]; exact e)
    · exact .inr hge)
/-- One cell of a board's indexes is set. -/
theorem BdAt.setC (h : BdAt hu c w g vL M) (i : Nat) (hi : i < M.length) (j : Nat) (hj : j < 3) (u : Value) (y : Lm) (hy : lmF y = (lmF M[i]).set j u) (hyA : LmAt c w y) {gL n' cL : Nat} (hv : vL = .slice (some ⟨gL, 0, none⟩) n' cL) :
    (w.cell? ⟨gL, i * 3 + j, none⟩).isSome = true ∧ w.frozen? ⟨gL, i * 3 + j, none⟩ = false ∧ BdAt hu c (w.setCell ⟨gL, i * 3 + j, none⟩ u) g vL (M.set i y) ∧ Turns (fun k => c k = hu) w (w.setCell ⟨gL, i * 3 + j, none⟩ u) := by
  obtain ⟨A, c', e, _⟩ := h.slice
  rw [hv] at e
  cases e
  subst hv
  obtain ⟨q1, q2⟩ := h.toLnsAt.okc i hi j hj
  obtain ⟨q3, q4⟩ := h.toLnsAt.setC i hi j hj u y hy hyA
  exact ⟨q1, q2, ⟨q3, h.hug, h.blk.far (p := ⟨gL, i * 3 + j, none⟩) (bd_ne h.row h.blk (by decide) rfl) u⟩, q4⟩
theorem RbAt.setC (h : RbAt hu c w g vL n M) (i : Nat) (hi : i < M.length) (j : Nat) (hj : j < 3) (u : Value) (y : Lm) (hy : lmF y = (lmF M[i]).set j u) (hyA : LmAt c w y) {gL n' cL : Nat} (hv : vL = .slice (some ⟨gL, 0, none⟩) n' cL) :
    (w.cell? ⟨gL, i * 3 + j, none⟩).isSome = true ∧ w.frozen? ⟨gL, i * 3 + j, none⟩ = false ∧ RbAt hu c (w.setCell ⟨gL, i * 3 + j, none⟩ u) g vL n (M.set i y) ∧ Turns (fun k => c k = hu) w (w.setCell ⟨gL, i * 3 + j, none⟩ u) := by
  obtain ⟨A, c', e, _⟩ := h.slice
  rw [hv] at e
  cases e
  subst hv
  obtain ⟨q1, q2⟩ := h.toLnsAt.okc i hi j hj
  obtain ⟨q3, q4⟩ := h.toLnsAt.setC i hi j hj u y hy hyA
  exact ⟨q1, q2, ⟨q3, h.hug, h.blk.far (p := ⟨gL, i * 3 + j, none⟩) (bd_ne h.row h.blk (by decide) rfl) u⟩, q4⟩
theorem absB_set {i : Nat} {y : Lm} : absB (M.set i y) = (absB M).set i y.x := by unfold absB; rw [List.map_set]
theorem upd_abs {i : Nat} (hi : i < M.length) {id : Int} (hid : id = i + 1) {f : Ln → Ln} {y : Lm} (hy : y.x = f M[i].x) : upd (absB M) id f = absB (M.set i y) := by
  rw [upd_set (by omega) (by rw [absB_len]; omega), absB_set, hy]
  have : (id - 1).toNat = i := by omega
  simp only [this, absB_get]
theorem upd_st {i : Nat} (hi : i < M.length) {id : Int} (hid : id = i + 1) {f : Ln → Ln} : stV (upd (absB M) id f) id = (f M[i].x).st := by
  rw [stV_upd (by omega) (by rw [absB_len]; omega)]
  have : (id - 1).toNat = i := by omega
  simp only [this, absB_get]
theorem Report11 {k : Nat} (id : Int) (r : Rg) (hid : id ≤ 9223372036854775807) (h : BdS hu c w g V) (hok : BdOk k V) (hk : k ≤ 1000) :
    CallP Try.prog 11 #[.pointer (some ⟨g, 0, none⟩), .int .i64 id, rgV r] (fun u w' => u = .bool (reB V id (rep0 r)) ∧ LeftD hu c w g (reV V id (rep0 r)) w') w := by
  obtain ⟨vL, M, h, rfl⟩ := h
  refine ⟨S11.calls _ _ _ _ _ ?_⟩
  unfold S11
  refine bxB ?_
  intro gr w1 hgr hR1 hb1
  refine bs1I bI1 ?_
  intro v2 w2 ho2 _ h2
  have hb2 := below_then hb1 h2
  have hR2 := hR1.below' h2
  have hA2 := h.below hb2
  have hcc := col_lt c w.heap.size 999
  have hA2c := (h.re hcc).below hb2
  refine (at29 id v2 [1] hA2 ho2.rd hid).mono ?_
  rintro _ _ ⟨rfl, ⟨i, gL, cL, hi, rfl, hin, hvL, rfl⟩ | ⟨rfl, hno⟩⟩
  · obtain ⟨gL', cL', he, q0, q1, q2⟩ := hA2.at i hi
    rw [hvL] at he
    cases he
    have hst : M[i].x.st = 1 := by simpa using hin
    have hsV : stV (absB M) ((i : Int) + 1) = 1 := (absB_st i hi rfl).trans hst
    have hxo := hok.2 M[i].x (List.mem_map.2 ⟨_, List.getElem_mem hi, rfl⟩)
    refine nilP undLp ?_
    simp only [Option.isNone_some]
    have hdr : Below w2.heap.size w2 w2.drew := (Below.refl _ _).drew
    have k2 : ∀ w', Below w2.heap.size w2 w' → w'.cell? ⟨gL, i * 3 + 2, none⟩ = some M[i].rv := fun w' hb => by rw [hb.cell (World.block_lt_of_cell? _ _ q2), q2]
    have kR : ∀ w', Below w2.heap.size w2 w' → Blk w' gr 32 (rgA r) := fun w' hb => hR2.below' hb
    have hel := hA2c.el _ (List.getElem_mem hi)
    (repeat with_reducible first|refine z_a ?_|refine z_b ?_|refine z_c ?_|refine z_d ?_|refine z_e ?_|refine z_f ?_|refine z_g ?_|refine z_h ?_|refine z_i ?_|refine z_j ?_|refine z_k ?_|refine z_l ?_|refine z_m (by omega) ?_|refine z_n (by omega) ?_|refine z_o (by omega) ?_|refine z_p (by omega) ?_|refine z_q (by omega) ?_|refine z_r (by omega) ?_|refine z_s (by omega) ?_|refine z_t (by omega) ?_|refine z_u (by omega) ?_|refine z_v (by omega) ?_|refine z_w (by omega) ?_|refine z_x (by omega) ?_|refine z_y (by omega) ?_|refine z_z (by omega) ?_|refine z_A ?_|refine z_B ?_|refine z_C ?_|refine z_D ?_|refine z_E ?_|refine z_F ?_|refine z_G ?_|refine z_H ?_|refine z_I ?_)
    refine draw (Below w2.heap.size w2) hdr ?_
    (repeat with_reducible first | refine yfdG l2 (by decide) ?_| refine yl1 oneRgs k2 ?_|refine z_J ?_|refine z_a ?_|refine z_b ?_|refine z_c ?_|refine z_d ?_|refine z_e ?_|refine z_f ?_|refine z_g ?_|refine z_h ?_|refine z_i ?_|refine z_j ?_|refine z_k ?_|refine z_l ?_|refine z_K (by omega) ?_|refine z_L (by omega) ?_|refine z_M (by omega) ?_|refine z_N (by omega) ?_|refine z_O (by omega) ?_|refine z_P (by omega) ?_|refine z_Q (by omega) ?_|refine z_R (by omega) ?_|refine z_S (by omega) ?_|refine z_T (by omega) ?_|refine z_U (by omega) ?_|refine z_V (by omega) ?_|refine z_W (by omega) ?_|refine z_X (by omega) ?_|refine z_Y ?_|refine z_Z ?_|refine z_a1 ?_|refine z_b1 ?_|refine z_c1 ?_|refine z_d1 ?_|refine z_e1 ?_|refine z_f1 ?_|refine z_g1 ?_)
    refine yldA agg23 kR (by rw [sz23]; rfl) ?_
    refine act ?_
    refine (minus19 M[i].rv M[i].x.rs r (Nat.le_trans hxo.len hk) w2.drew (hel.rrd.kept hdr)).mono ?_
    rintro v3 w3 ⟨out, hout, _, ho3, h3⟩
    have := hout.eq
    subst this
    have hb3 := below_then hdr h3
    refine ⟨_, hb3, fun _ h => h, ?_⟩
    have hA3 := hA2c.below hb3
    have hs2 := hb2.size
    have hsd := hdr.size
    have hfr : ∀ b, v3.ownBlock = some b → w.heap.size ≤ b := fun b hb => by have := ho3.2 b hb; omega
    have hY : LmAt (col c w.heap.size 999) w3 ⟨M[i].fv, v3, ⟨M[i].x.fs, 1, mns M[i].x.rs r⟩⟩ :=
      ⟨(hel.below hb3).fo, (hel.below hb3).fh, OwnR.of_own ho3.1, fun b hb => col_ge _ _ _ (hfr b hb)⟩
    have hone : v3.oneCell' = true := by obtain ⟨A, c', e⟩ := ho3.slice; rw [e]; rfl
    obtain ⟨oc1, oc2, hB4, hT4⟩ := hA3.setC i hi 2 (by decide) v3 ⟨M[i].fv, v3, ⟨M[i].x.fs, 1, mns M[i].x.rs r⟩⟩ (by simp [lmF, hst]) hY hvL
    have hT04 := Turns.stepC (hu := hu) (c := c) (Turns.of_below (below_then hb2 hb3)) hcc hT4
    (repeat with_reducible first | refine yfdG l2 (by decide) ?_|refine z_J ?_|refine z_a ?_|refine z_b ?_|refine z_c ?_|refine z_d ?_|refine z_e ?_|refine z_f ?_|refine z_g ?_|refine z_h ?_|refine z_i ?_|refine z_j ?_|refine z_k ?_|refine z_l ?_|refine z_K (by omega) ?_|refine z_L (by omega) ?_|refine z_M (by omega) ?_|refine z_N (by omega) ?_|refine z_O (by omega) ?_|refine z_P (by omega) ?_|refine z_Q (by omega) ?_|refine z_R (by omega) ?_|refine z_S (by omega) ?_|refine z_T (by omega) ?_|refine z_U (by omega) ?_|refine z_V (by omega) ?_|refine z_W (by omega) ?_|refine z_X (by omega) ?_|refine z_Y ?_|refine z_Z ?_|refine z_a1 ?_|refine z_b1 ?_|refine z_c1 ?_|refine z_d1 ?_|refine z_e1 ?_|refine z_f1 ?_|refine z_g1 ?_)
    refine st szRgs hone oc1 oc2 ?_
    have hlen : (M.set i ⟨M[i].fv, v3, ⟨M[i].x.fs, 1, mns M[i].x.rs r⟩⟩).length = M.length := List.length_set
    have hi4 : i < (M.set i ⟨M[i].fv, v3, ⟨M[i].x.fs, 1, mns M[i].x.rs r⟩⟩).length := by rw [hlen]; exact hi
    generalize w3.setCell ⟨gL, i * 3 + 2, none⟩ v3 = w4 at *
    obtain ⟨gL5, cL5, he5, _, p1, p2⟩ := hB4.at i hi4
    rw [hvL, hlen] at he5
    cases he5
    rw [List.getElem_set_self] at p1 p2
    obtain ⟨A3, c3, hv3⟩ := ho3.slice
    simp only at p2
    rw [hv3] at p2
    (repeat with_reducible first | refine fdG l2 (by decide) ?_| refine ld oneRgs p2 ?_|refine z_a ?_|refine z_b ?_|refine z_c ?_|refine z_d ?_|refine z_e ?_|refine z_f ?_|refine z_g ?_|refine z_h ?_|refine z_i ?_|refine z_j ?_|refine z_k ?_|refine z_l ?_|refine z_m (by omega) ?_|refine z_n (by omega) ?_|refine z_o (by omega) ?_|refine z_p (by omega) ?_|refine z_q (by omega) ?_|refine z_r (by omega) ?_|refine z_s (by omega) ?_|refine z_t (by omega) ?_|refine z_u (by omega) ?_|refine z_v (by omega) ?_|refine z_w (by omega) ?_|refine z_x (by omega) ?_|refine z_y (by omega) ?_|refine z_z (by omega) ?_|refine z_A ?_|refine z_B ?_|refine z_C ?_|refine z_D ?_|refine z_E ?_|refine z_F ?_|refine z_G ?_|refine z_H ?_|refine z_I ?_)
    refine ln und26 ?_
    refine bi_gtr_c (fun hg0 => ?_) (fun hg0 => ?_)
    · (repeat with_reducible first|refine z_a ?_|refine z_b ?_|refine z_c ?_|refine z_d ?_|refine z_e ?_|refine z_f ?_|refine z_g ?_|refine z_h ?_|refine z_i ?_|refine z_j ?_|refine z_k ?_|refine z_l ?_|refine z_m (by omega) ?_|refine z_n (by omega) ?_|refine z_o (by omega) ?_|refine z_p (by omega) ?_|refine z_q (by omega) ?_|refine z_r (by omega) ?_|refine z_s (by omega) ?_|refine z_t (by omega) ?_|refine z_u (by omega) ?_|refine z_v (by omega) ?_|refine z_w (by omega) ?_|refine z_x (by omega) ?_|refine z_y (by omega) ?_|refine z_z (by omega) ?_|refine z_A ?_|refine z_B ?_|refine z_C ?_|refine z_D ?_|refine z_E ?_|refine z_F ?_|refine z_G ?_|refine z_H ?_|refine z_I ?_)
      have hne : mns M[i].x.rs r ≠ [] := List.length_pos_iff.1 (by omega)
      have hu1 : upd (absB M) ((i : Int) + 1) (rep0 r) = _ := upd_abs hi rfl (y := ⟨M[i].fv, v3, ⟨M[i].x.fs, 1, mns M[i].x.rs r⟩⟩) (by unfold rep0; rw [if_neg hne])
      refine ⟨?_, ?_⟩
      · unfold reB
        rw [upd_st hi rfl]
        refine fB fun e => ?_
        have e2 := e.2
        unfold rep0 at e2
        simp only [if_neg hne] at e2
        omega
      · unfold reV
        rw [if_pos hsV, hu1]
        exact ⟨_, hcc, ⟨_, _, hB4, rfl⟩, hT04⟩
    · have hnil : mns M[i].x.rs r = [] := List.length_eq_zero_iff.1 (by omega)
      have hY5 : LmAt (col c w.heap.size 999) w4 ⟨M[i].fv, v3, ⟨M[i].x.fs, 2, mns M[i].x.rs r⟩⟩ := by
        have := hB4.el _ (List.getElem_mem hi4)
        rw [List.getElem_set_self] at this
        exact ⟨this.fo, this.fh, this.ro, this.rh⟩
      obtain ⟨oc3, oc4, hB5, hT5⟩ := hB4.setC i hi4 1 (by decide) (.int .i64 2) ⟨M[i].fv, v3, ⟨M[i].x.fs, 2, mns M[i].x.rs r⟩⟩ (by rw [List.getElem_set_self]; rfl) hY5 hvL
      rw [List.set_set] at hB5
      have hT05 := Turns.stepC (hu := hu) hT04 hcc hT5
      (repeat with_reducible first | refine fdG l1 (by decide) ?_|refine z_a ?_|refine z_b ?_|refine z_c ?_|refine z_d ?_|refine z_e ?_|refine z_f ?_|refine z_g ?_|refine z_h ?_|refine z_i ?_|refine z_j ?_|refine z_k ?_|refine z_l ?_|refine z_m (by omega) ?_|refine z_n (by omega) ?_|refine z_o (by omega) ?_|refine z_p (by omega) ?_|refine z_q (by omega) ?_|refine z_r (by omega) ?_|refine z_s (by omega) ?_|refine z_t (by omega) ?_|refine z_u (by omega) ?_|refine z_v (by omega) ?_|refine z_w (by omega) ?_|refine z_x (by omega) ?_|refine z_y (by omega) ?_|refine z_z (by omega) ?_|refine z_A ?_|refine z_B ?_|refine z_C ?_|refine z_D ?_|refine z_E ?_|refine z_F ?_|refine z_G ?_|refine z_H ?_|refine z_I ?_)
      refine st szI rfl oc3 oc4 ?_
      (repeat with_reducible first|refine z_a ?_|refine z_b ?_|refine z_c ?_|refine z_d ?_|refine z_e ?_|refine z_f ?_|refine z_g ?_|refine z_h ?_|refine z_i ?_|refine z_j ?_|refine z_k ?_|refine z_l ?_|refine z_m (by omega) ?_|refine z_n (by omega) ?_|refine z_o (by omega) ?_|refine z_p (by omega) ?_|refine z_q (by omega) ?_|refine z_r (by omega) ?_|refine z_s (by omega) ?_|refine z_t (by omega) ?_|refine z_u (by omega) ?_|refine z_v (by omega) ?_|refine z_w (by omega) ?_|refine z_x (by omega) ?_|refine z_y (by omega) ?_|refine z_z (by omega) ?_|refine z_A ?_|refine z_B ?_|refine z_C ?_|refine z_D ?_|refine z_E ?_|refine z_F ?_|refine z_G ?_|refine z_H ?_|refine z_I ?_)
      have hu1 : upd (absB M) ((i : Int) + 1) (rep0 r) = _ := upd_abs hi rfl (y := ⟨M[i].fv, v3, ⟨M[i].x.fs, 2, mns M[i].x.rs r⟩⟩) (by unfold rep0; rw [if_pos hnil])
      refine ⟨?_, ?_⟩
      · unfold reB
        rw [upd_st hi rfl]
        refine tB ⟨hsV, ?_⟩
        unfold rep0
        simp only [if_pos hnil]
      · unfold reV
        rw [if_pos hsV, hu1]
        exact ⟨_, hcc, ⟨_, _, hB5, rfl⟩, hT05⟩
  · refine nilP undLp ?_
    simp only [Option.isNone_none]
    (repeat with_reducible first|refine z_a ?_|refine z_b ?_|refine z_c ?_|refine z_d ?_|refine z_e ?_|refine z_f ?_|refine z_g ?_|refine z_h ?_|refine z_i ?_|refine z_j ?_|refine z_k ?_|refine z_l ?_|refine z_m (by omega) ?_|refine z_n (by omega) ?_|refine z_o (by omega) ?_|refine z_p (by omega) ?_|refine z_q (by omega) ?_|refine z_r (by omega) ?_|refine z_s (by omega) ?_|refine z_t (by omega) ?_|refine z_u (by omega) ?_|refine z_v (by omega) ?_|refine z_w (by omega) ?_|refine z_x (by omega) ?_|refine z_y (by omega) ?_|refine z_z (by omega) ?_|refine z_A ?_|refine z_B ?_|refine z_C ?_|refine z_D ?_|refine z_E ?_|refine z_F ?_|refine z_G ?_|refine z_H ?_|refine z_I ?_)
    have hs : ¬ stV (absB M) id = 1 := fun e => by
      obtain ⟨q1, q2⟩ := stV_in (V := absB M) (id := id) (by omega)
      exact hno ⟨q1, by rwa [absB_len] at q2, by rw [e]; simp⟩
    refine ⟨by unfold reB; exact fB fun e => hs e.1, ?_⟩
    unfold reV
    rw [if_neg hs]
    exact ⟨c, fun _ _ => rfl, ⟨_, _, hA2, rfl⟩, Turns.of_below hb2⟩
end
end Go.Proofs.Ytcfncjejpjjhdaa.E
namespace Go.Proofs.Ytcfncjejpjjhdaa.E
open Go Go.RowKit
set_option linter.unusedSimpArgs false
set_option linter.unusedVariables false

section
variable {tl : TypeId} {hu : Nat} {c : Nat → Nat} {w : World} {g : Nat} {vL : Value} {n : Int} {M : List Lm} {V : BdV}
theorem Drop16 {k : Nat} (id : Int) (hid : id ≤ 9223372036854775807) (h : BdS hu c w g V) (hok : BdOk k V) :
    CallP Try.prog 16 #[.pointer (some ⟨g, 0, none⟩), .int .i64 id] (fun u w' => u = .int .i64 (drE V id) ∧ LeftD hu c w g (drV V id gone0) w') w := by
  obtain ⟨vL, M, h, rfl⟩ := h
  refine ⟨S16.calls _ _ _ _ ?_⟩
  unfold S16
  refine bs2I bI2 ?_
  intro v2 w2 ho2 _ hb2
  have hA2 := h.below hb2
  refine (at29 id v2 [1, 2] hA2 ho2.rd hid).mono ?_
  rintro _ _ ⟨rfl, ⟨i, gL, cL, hi, rfl, hin, rfl, rfl⟩ | ⟨rfl, hno⟩⟩
  · have hst : M[i].x.st = 1 ∨ M[i].x.st = 2 := by simpa using hin
    have hsV : stV (absB M) ((i : Int) + 1) = 1 ∨ stV (absB M) ((i : Int) + 1) = 2 := by rw [absB_st i hi rfl]; exact hst
    refine nilP undLp ?_
    simp only [Option.isNone_some]
    (repeat with_reducible first|refine z_a ?_|refine z_b ?_|refine z_c ?_|refine z_d ?_|refine z_e ?_|refine z_f ?_|refine z_g ?_|refine z_h ?_|refine z_i ?_|refine z_j ?_|refine z_k ?_|refine z_l ?_|refine z_m (by omega) ?_|refine z_n (by omega) ?_|refine z_o (by omega) ?_|refine z_p (by omega) ?_|refine z_q (by omega) ?_|refine z_r (by omega) ?_|refine z_s (by omega) ?_|refine z_t (by omega) ?_|refine z_u (by omega) ?_|refine z_v (by omega) ?_|refine z_w (by omega) ?_|refine z_x (by omega) ?_|refine z_y (by omega) ?_|refine z_z (by omega) ?_|refine z_A ?_|refine z_B ?_|refine z_C ?_|refine z_D ?_|refine z_E ?_|refine z_F ?_|refine z_G ?_|refine z_H ?_|refine z_I ?_)
    refine bd (cells := (lmF ⟨.slice none 0 0, .slice none 0 0, ⟨[], 3, []⟩⟩).toArray) (by kernel_rfl) ?_
    (repeat with_reducible first|refine z_a ?_|refine z_b ?_|refine z_c ?_|refine z_d ?_|refine z_e ?_|refine z_f ?_|refine z_g ?_|refine z_h ?_|refine z_i ?_|refine z_j ?_|refine z_k ?_|refine z_l ?_|refine z_m (by omega) ?_|refine z_n (by omega) ?_|refine z_o (by omega) ?_|refine z_p (by omega) ?_|refine z_q (by omega) ?_|refine z_r (by omega) ?_|refine z_s (by omega) ?_|refine z_t (by omega) ?_|refine z_u (by omega) ?_|refine z_v (by omega) ?_|refine z_w (by omega) ?_|refine z_x (by omega) ?_|refine z_y (by omega) ?_|refine z_z (by omega) ?_|refine z_A ?_|refine z_B ?_|refine z_C ?_|refine z_D ?_|refine z_E ?_|refine z_F ?_|refine z_G ?_|refine z_H ?_|refine z_I ?_)
    refine stW hA2.row i hi rfl szL (by simp [lmF, Value.oneCell']) ?_
    intro w3 ho3 hT3
    rw [show ((lmF ⟨.slice none 0 0, .slice none 0 0, ⟨[], 3, []⟩⟩).toArray).toList = lmF ⟨.slice none 0 0, .slice none 0 0, ⟨[], 3, []⟩⟩ from rfl, flatMap_put lmF 3 lmF_len _ M i hi] at ho3
    (repeat with_reducible first|refine z_a ?_|refine z_b ?_|refine z_c ?_|refine z_d ?_|refine z_e ?_|refine z_f ?_|refine z_g ?_|refine z_h ?_|refine z_i ?_|refine z_j ?_|refine z_k ?_|refine z_l ?_|refine z_m (by omega) ?_|refine z_n (by omega) ?_|refine z_o (by omega) ?_|refine z_p (by omega) ?_|refine z_q (by omega) ?_|refine z_r (by omega) ?_|refine z_s (by omega) ?_|refine z_t (by omega) ?_|refine z_u (by omega) ?_|refine z_v (by omega) ?_|refine z_w (by omega) ?_|refine z_x (by omega) ?_|refine z_y (by omega) ?_|refine z_z (by omega) ?_|refine z_A ?_|refine z_B ?_|refine z_C ?_|refine z_D ?_|refine z_E ?_|refine z_F ?_|refine z_G ?_|refine z_H ?_|refine z_I ?_)
    have hT03 : Turns (fun k => c k = hu) w w3 := (Turns.of_below hb2).trans (hT3.mono fun k hk e => .inl (by show c k = hu; rw [e]; exact h.hue gL rfl))
    have hTc : Turns (fun k => c k = hu) w2 w3 := hT3.mono fun k hk e => by show c k = hu; rw [e]; exact h.hue gL rfl
    have hhh := h.hh
    have hel : ∀ m ∈ M.set i ⟨.slice none 0 0, .slice none 0 0, ⟨[], 3, []⟩⟩, LmAt c w3 m := fun m hm => by
      rcases mem_set hm with rfl | hm
      · exact ⟨⟨rfl, .inl ⟨rfl, rfl⟩⟩, InC.nil _ _ _ _, ⟨rfl, .inl ⟨rfl, rfl⟩⟩, InC.nil _ _ _ _⟩
      · exact (hA2.el m hm).turns hTc fun k hk => by rw [hk]; omega
    have hB3 : BdAt hu c w3 g (.slice (some ⟨gL, 0, none⟩) M.length cL) (M.set i ⟨.slice none 0 0, .slice none 0 0, ⟨[], 3, []⟩⟩) :=
      ⟨⟨h.hh, by rw [List.length_set]; exact ho3, h.hue, hel⟩, h.hug, hA2.blk.turns hT3 fun e => bd_ne hA2.row hA2.blk (by decide) rfl e⟩
    refine ⟨by unfold drE; rw [if_pos hsV], ?_⟩
    unfold drV
    rw [if_pos hsV, upd_abs hi rfl (y := ⟨.slice none 0 0, .slice none 0 0, ⟨[], 3, []⟩⟩) rfl]
    exact ⟨c, fun _ _ => rfl, ⟨_, _, hB3, rfl⟩, hT03⟩
  · refine nilP undLp ?_
    simp only [Option.isNone_none]
    (repeat with_reducible first|refine z_a ?_|refine z_b ?_|refine z_c ?_|refine z_d ?_|refine z_e ?_|refine z_f ?_|refine z_g ?_|refine z_h ?_|refine z_i ?_|refine z_j ?_|refine z_k ?_|refine z_l ?_|refine z_m (by omega) ?_|refine z_n (by omega) ?_|refine z_o (by omega) ?_|refine z_p (by omega) ?_|refine z_q (by omega) ?_|refine z_r (by omega) ?_|refine z_s (by omega) ?_|refine z_t (by omega) ?_|refine z_u (by omega) ?_|refine z_v (by omega) ?_|refine z_w (by omega) ?_|refine z_x (by omega) ?_|refine z_y (by omega) ?_|refine z_z (by omega) ?_|refine z_A ?_|refine z_B ?_|refine z_C ?_|refine z_D ?_|refine z_E ?_|refine z_F ?_|refine z_G ?_|refine z_H ?_|refine z_I ?_)
    have hs : ¬ (stV (absB M) id = 1 ∨ stV (absB M) id = 2) := fun e => by
      obtain ⟨q1, q2⟩ := stV_in (V := absB M) (id := id) (by omega)
      exact hno ⟨q1, by rwa [absB_len] at q2, by rcases e with e | e <;> rw [e] <;> simp⟩
    refine ⟨by unfold drE; rw [if_neg hs], ?_⟩
    unfold drV
    rw [if_neg hs]
    exact ⟨c, fun _ _ => rfl, ⟨_, _, hA2, rfl⟩, Turns.of_below hb2⟩
theorem de_many {fs : List Int} (h : V.length = 6) : deE V fs = (0, 17) ∧ ∀ rs, deV V fs rs = V := ⟨by unfold deE; rw [if_pos h], fun rs => by unfold deV; rw [if_pos h]⟩
theorem de_bad {fs : List Int} (h : ¬ V.length = 6) (hc : ¬ ckI fs = 0) : deE V fs = (0, ckI fs) ∧ ∀ rs, deV V fs rs = V := ⟨by unfold deE; rw [if_neg h, if_neg hc], fun rs => by unfold deV; rw [if_neg h, if_neg hc]⟩
theorem de_good {fs : List Int} (h : ¬ V.length = 6) (hc : ckI fs = 0) : deE V fs = ((V.length : Int) + 1, (0 : Int)) ∧ ∀ rs, deV V fs rs = V ++ [⟨fs, 1, rs⟩] := ⟨by unfold deE; rw [if_neg h, if_pos hc], fun rs => by unfold deV; rw [if_neg h, if_pos hc]⟩
theorem own1 {w : World} {e : TypeId} {s n : Nat} {v : Value} {xs : List Value} (h : w.ownsRow 0 e s v n xs) : v.oneCell' = true := by
  obtain ⟨A, c, e, _⟩ := (OwnR.of_own h).slice
  rw [e]; rfl
theorem ckX_in {id : Int} {fs : List Int} (h : 1 ≤ id ∧ id ≤ 6) : ckX id fs = ckI fs := if_pos h
/-- A row of indexes grown by one. -/
theorem LnsAt.grow {c3 : Nat → Nat} {w5 w6 : World} {m : Lm} {v' : Value} (h : LnsAt tl hu c3 w5 vL M) (hm : LmAt c3 w5 m) (ho : w6.ownsRow 0 tl 3 v' (M.length + 1) (M.flatMap lmF ++ lmF m)) (hbl : v'.ownBlock = vL.ownBlock ∨ ∃ b, v'.ownBlock = some b ∧ w5.heap.size ≤ b)
    (hT : Turns (fun j => vL.ownBlock = some j) w5 w6) : LnsAt tl hu (col c3 w5.heap.size hu) w6 v' (M ++ [m]) ∧ Turns (fun k => c3 k = hu) w5 w6 := by
  have hT' : Turns (fun k => c3 k = hu) w5 w6 := hT.mono fun k hk e => h.hue k e
  have hcc := col_lt c3 w5.heap.size hu
  have hhh := h.hh
  refine ⟨⟨h.hh, ?_, fun k hk => ?_, fun x hx => ?_⟩, hT'⟩
  · have e1 : (M ++ [m]).length = M.length + 1 := by simp
    rw [e1, List.flatMap_append]
    simpa using ho
  · rcases hbl with e | ⟨b, e, hb⟩
    · rw [e] at hk
      rw [hcc k (ownsRow_lt h.row hk)]
      exact h.hue k hk
    · rw [e] at hk
      cases hk
      exact col_ge _ _ _ hb
  · have hx' : LmAt c3 w5 x := by
      rcases List.mem_append.1 hx with hx | hx
      · exact h.el x hx
      · simp only [List.mem_cons, List.not_mem_nil, or_false] at hx
        rw [hx]; exact hm
    exact (hx'.re hcc).turns hT'.cut fun k hk => by
      rw [hcc k hk.2]
      have : c3 k = hu := hk.1
      omega
theorem Declare10 {k : Nat} (vf : Value) (fs : List Int) (hf : Rd w vf (iV fs)) (hfl : fs.length ≤ 100000) (h : BdS hu c w g V) (hok : BdOk k V) :
    CallP Try.prog 10 #[.pointer (some ⟨g, 0, none⟩), vf] (fun u w' => u = .tuple #[.int .i64 (deE V fs).1, .int .i64 (deE V fs).2] ∧ LeftD hu c w g (deV V fs [allR]) w') w := by
  obtain ⟨vL, M, h, rfl⟩ := h
  refine ⟨S10.calls _ _ _ _ ?_⟩
  unfold S10
  obtain ⟨A, cL, hvL, hml⟩ := h.slice
  obtain ⟨Af, cf, hvf, hf1, hf2⟩ := hf.slice
  have hlf : (iV fs).length = fs.length := List.length_map _
  rw [hlf] at hvf hf1
  have h6 := hok.1
  rw [absB_len] at h6
  have cc0 : w.cell? ⟨g, 0, none⟩ = some vL := h.blk.cell 0
  have here : LeftD hu c w g (absB M) w := ⟨c, fun _ _ => rfl, ⟨_, _, h, rfl⟩, Turns.refl _ w⟩
  (repeat with_reducible first | refine fd b0 (by decide) ?_| refine ld oneLs cc0 ?_|refine z_a ?_|refine z_b ?_|refine z_c ?_|refine z_d ?_|refine z_e ?_|refine z_f ?_|refine z_g ?_|refine z_h ?_|refine z_i ?_|refine z_j ?_|refine z_k ?_|refine z_l ?_|refine z_m (by omega) ?_|refine z_n (by omega) ?_|refine z_o (by omega) ?_|refine z_p (by omega) ?_|refine z_q (by omega) ?_|refine z_r (by omega) ?_|refine z_s (by omega) ?_|refine z_t (by omega) ?_|refine z_u (by omega) ?_|refine z_v (by omega) ?_|refine z_w (by omega) ?_|refine z_x (by omega) ?_|refine z_y (by omega) ?_|refine z_z (by omega) ?_|refine z_A ?_|refine z_B ?_|refine z_C ?_|refine z_D ?_|refine z_E ?_|refine z_F ?_|refine z_G ?_|refine z_H ?_|refine z_I ?_)
  rw [hvL]
  refine ln undLs ?_
  refine bi_eql_c (fun e6 => ?_) (fun e6 => ?_)
  · (repeat with_reducible first|refine z_a ?_|refine z_b ?_|refine z_c ?_|refine z_d ?_|refine z_e ?_|refine z_f ?_|refine z_g ?_|refine z_h ?_|refine z_i ?_|refine z_j ?_|refine z_k ?_|refine z_l ?_|refine z_m (by omega) ?_|refine z_n (by omega) ?_|refine z_o (by omega) ?_|refine z_p (by omega) ?_|refine z_q (by omega) ?_|refine z_r (by omega) ?_|refine z_s (by omega) ?_|refine z_t (by omega) ?_|refine z_u (by omega) ?_|refine z_v (by omega) ?_|refine z_w (by omega) ?_|refine z_x (by omega) ?_|refine z_y (by omega) ?_|refine z_z (by omega) ?_|refine z_A ?_|refine z_B ?_|refine z_C ?_|refine z_D ?_|refine z_E ?_|refine z_F ?_|refine z_G ?_|refine z_H ?_|refine z_I ?_)
    obtain ⟨d1, d2⟩ := de_many (V := absB M) (fs := fs) (by rw [absB_len]; omega)
    rw [d1, d2]
    exact ⟨rfl, here⟩
  (repeat with_reducible first | refine fd b0 (by decide) ?_| refine ld oneLs cc0 ?_|refine z_a ?_|refine z_b ?_|refine z_c ?_|refine z_d ?_|refine z_e ?_|refine z_f ?_|refine z_g ?_|refine z_h ?_|refine z_i ?_|refine z_j ?_|refine z_k ?_|refine z_l ?_|refine z_m (by omega) ?_|refine z_n (by omega) ?_|refine z_o (by omega) ?_|refine z_p (by omega) ?_|refine z_q (by omega) ?_|refine z_r (by omega) ?_|refine z_s (by omega) ?_|refine z_t (by omega) ?_|refine z_u (by omega) ?_|refine z_v (by omega) ?_|refine z_w (by omega) ?_|refine z_x (by omega) ?_|refine z_y (by omega) ?_|refine z_z (by omega) ?_|refine z_A ?_|refine z_B ?_|refine z_C ?_|refine z_D ?_|refine z_E ?_|refine z_F ?_|refine z_G ?_|refine z_H ?_|refine z_I ?_)
  rw [hvL]
  (repeat with_reducible first | refine ln undLs ?_|refine z_a ?_|refine z_b ?_|refine z_c ?_|refine z_d ?_|refine z_e ?_|refine z_f ?_|refine z_g ?_|refine z_h ?_|refine z_i ?_|refine z_j ?_|refine z_k ?_|refine z_l ?_|refine z_m (by omega) ?_|refine z_n (by omega) ?_|refine z_o (by omega) ?_|refine z_p (by omega) ?_|refine z_q (by omega) ?_|refine z_r (by omega) ?_|refine z_s (by omega) ?_|refine z_t (by omega) ?_|refine z_u (by omega) ?_|refine z_v (by omega) ?_|refine z_w (by omega) ?_|refine z_x (by omega) ?_|refine z_y (by omega) ?_|refine z_z (by omega) ?_|refine z_A ?_|refine z_B ?_|refine z_C ?_|refine z_D ?_|refine z_E ?_|refine z_F ?_|refine z_G ?_|refine z_H ?_|refine z_I ?_)
  rw [hvf]
  refine bd (cells := #[.int .i64 ((M.length : Int) + 1), .slice Af fs.length cf]) (by kernel_rfl) ?_
  rw [← hvf]
  refine (CheckIndex27 _ vf fs w hf).mono ?_
  rintro _ w1 ⟨rfl, hb1⟩
  rw [ckX_in (by omega)]
  have h1 := h.below hb1
  refine bi_neq_c (fun hck => ?_) (fun hck => ?_)
  · (repeat with_reducible first|refine z_a ?_|refine z_b ?_|refine z_c ?_|refine z_d ?_|refine z_e ?_|refine z_f ?_|refine z_g ?_|refine z_h ?_|refine z_i ?_|refine z_j ?_|refine z_k ?_|refine z_l ?_|refine z_m (by omega) ?_|refine z_n (by omega) ?_|refine z_o (by omega) ?_|refine z_p (by omega) ?_|refine z_q (by omega) ?_|refine z_r (by omega) ?_|refine z_s (by omega) ?_|refine z_t (by omega) ?_|refine z_u (by omega) ?_|refine z_v (by omega) ?_|refine z_w (by omega) ?_|refine z_x (by omega) ?_|refine z_y (by omega) ?_|refine z_z (by omega) ?_|refine z_A ?_|refine z_B ?_|refine z_C ?_|refine z_D ?_|refine z_E ?_|refine z_F ?_|refine z_G ?_|refine z_H ?_|refine z_I ?_)
    obtain ⟨d1, d2⟩ := de_bad (V := absB M) (fs := fs) (by rw [absB_len]; omega) hck
    rw [d1, d2]
    exact ⟨rfl, here.below hb1⟩
  have hckl := ckI_len hck
  (repeat with_reducible first|refine z_a ?_|refine z_b ?_|refine z_c ?_|refine z_d ?_|refine z_e ?_|refine z_f ?_|refine z_g ?_|refine z_h ?_|refine z_i ?_|refine z_j ?_|refine z_k ?_|refine z_l ?_|refine z_m (by omega) ?_|refine z_n (by omega) ?_|refine z_o (by omega) ?_|refine z_p (by omega) ?_|refine z_q (by omega) ?_|refine z_r (by omega) ?_|refine z_s (by omega) ?_|refine z_t (by omega) ?_|refine z_u (by omega) ?_|refine z_v (by omega) ?_|refine z_w (by omega) ?_|refine z_x (by omega) ?_|refine z_y (by omega) ?_|refine z_z (by omega) ?_|refine z_A ?_|refine z_B ?_|refine z_C ?_|refine z_D ?_|refine z_E ?_|refine z_F ?_|refine z_G ?_|refine z_H ?_|refine z_I ?_)
  have fin : ∀ w', LeftD hu c w g (absB M ++ [⟨fs, 1, [allR]⟩]) w' → Value.tuple #[.int .i64 ((M.length : Int) + 1), .int .i64 0] = .tuple #[.int .i64 (deE (absB M) fs).1, .int .i64 (deE (absB M) fs).2] ∧ LeftD hu c w g (deV (absB M) fs [allR]) w' := fun w' hl => by
    obtain ⟨d1, d2⟩ := de_good (V := absB M) (fs := fs) (by rw [absB_len]; omega) hck
    rw [d1, d2]
    exact ⟨by rw [absB_len], hl⟩
  refine JoinP.cut (fun xs w' => xs = [] ∧ LeftD hu c w g (absB M ++ [⟨fs, 1, [allR]⟩]) w') (fun J hJ => ?_) (fun xs w' hI => by obtain ⟨rfl, hl⟩ := hI; exact fin w' hl)
  have hdr : Below w1.heap.size w1 w1.drew := (Below.refl _ _).drew
  have hbd := below_then hb1 hdr
  have hAd := h.below hbd
  have rdS : ∀ w' : World, w'.cell? ⟨g, 0, none⟩ = some vL → w'.cell? ⟨g, 0, none⟩ = some vL := fun _ h => h
  refine draw (fun w' : World => w'.cell? ⟨g, 0, none⟩ = some vL) (hAd.blk.cell 0) ?_
  generalize w1.drew = wd at *
  (repeat with_reducible first | refine yfd b0 (by decide) ?_| refine yl1 oneLs rdS ?_|refine z_J ?_|refine z_a ?_|refine z_b ?_|refine z_c ?_|refine z_d ?_|refine z_e ?_|refine z_f ?_|refine z_g ?_|refine z_h ?_|refine z_i ?_|refine z_j ?_|refine z_k ?_|refine z_l ?_|refine z_K (by omega) ?_|refine z_L (by omega) ?_|refine z_M (by omega) ?_|refine z_N (by omega) ?_|refine z_O (by omega) ?_|refine z_P (by omega) ?_|refine z_Q (by omega) ?_|refine z_R (by omega) ?_|refine z_S (by omega) ?_|refine z_T (by omega) ?_|refine z_U (by omega) ?_|refine z_V (by omega) ?_|refine z_W (by omega) ?_|refine z_X (by omega) ?_|refine z_Y ?_|refine z_Z ?_|refine z_a1 ?_|refine z_b1 ?_|refine z_c1 ?_|refine z_d1 ?_|refine z_e1 ?_|refine z_f1 ?_|refine z_g1 ?_)
  refine ybd (cells := rgA allR) (by kernel_rfl) ?_
  refine ⟨?o1, ⟨?o2, trivial⟩⟩
  case' o1 =>
    refine act ?_
    refine (Clone28 vf fs hfl wd (hf.below hbd)).mono ?_
    rintro vc w4 ⟨hoc, hfc, h4⟩
    have hb4 := below_then hbd h4
    refine ⟨_, (h.below hb4).blk.cell 0, fun _ h => h, ?_⟩
    refine act ?_
    refine bs1R allR ?_
    intro vr w5 hor h5
    have hb5 := below_then hb4 h5
    have hoc := hoc.below h5
    have hfc : Fresh w.heap.size vc := fun b hb => by have := hfc b hb; have := hbd.size; omega
    have hor := hor.mono hb4.size
  case' o2 =>
    refine act ?_
    refine bs1R allR ?_
    intro vr w4 hor h4
    have hb4 := below_then hbd h4
    refine ⟨_, (h.below hb4).blk.cell 0, fun _ h => h, ?_⟩
    refine act ?_
    refine (Clone28 vf fs hfl w4 (hf.below hb4)).mono ?_
    rintro vc w5 ⟨hoc, hfc, h5⟩
    have hb5 := below_then hb4 h5
    have hor := (hor.kept h5).mono hbd.size
    have hfc : Fresh w.heap.size vc := fun b hb => by have := hfc b hb; have := hb4.size; omega
  all_goals
    refine ⟨_, (h.below hb5).blk.cell 0, fun _ h => h, ?_⟩
    have hcc := col_lt c w.heap.size 999
    have hA5 := (h.re hcc).below hb5
    have hs5 := hb5.size
    have hM : LmAt (col c w.heap.size 999) w5 ⟨vc, vr, ⟨fs, 1, [allR]⟩⟩ := ⟨own_OwnR1 hoc, fun b hb => col_ge _ _ _ (hfc b hb), OwnR.of_own hor.1, fun b hb => col_ge _ _ _ (hor.2 b hb)⟩
    obtain ⟨A1, c1, e1⟩ := hoc.slice
    obtain ⟨A2, c2, e2⟩ := hor.slice
    rw [e1, e2]
    refine ybd (cells := #[.slice A1 (iV fs).length c1, .int .i64 1, .slice A2 ([allR] : List Rg).length c2]) (by kernel_rfl) ?_
    refine apOneA (us := [.slice A1 (iV fs).length c1, .int .i64 1, .slice A2 ([allR] : List Rg).length c2]) undLs infL (by rfl) (by decide) hA5.row rfl (fun u hu => by
      simp only [List.mem_cons, List.not_mem_nil, or_false] at hu
      rcases hu with rfl | rfl | rfl <;> rfl) (by omega) (by omega) (by kernel_rfl) (fun w' hb => (hA5.below hb).blk.cell 0) ?_
    intro v6 w6 ho6 hbl6 hT6
    rw [← e1, ← e2] at ho6
    obtain ⟨hL6, hT6'⟩ := hA5.toLnsAt.grow hM ho6 hbl6 hT6
    have hg6 : Blk w6 g 65 #[vL] := hA5.blk.turns hT6 fun e => bd_ne hA5.row hA5.blk (by decide) e rfl
    refine ⟨_, hg6.cell 0, fun _ h => h, ?_⟩
    (repeat with_reducible first | refine yfd b0 (by decide) ?_|refine z_J ?_|refine z_a ?_|refine z_b ?_|refine z_c ?_|refine z_d ?_|refine z_e ?_|refine z_f ?_|refine z_g ?_|refine z_h ?_|refine z_i ?_|refine z_j ?_|refine z_k ?_|refine z_l ?_|refine z_K (by omega) ?_|refine z_L (by omega) ?_|refine z_M (by omega) ?_|refine z_N (by omega) ?_|refine z_O (by omega) ?_|refine z_P (by omega) ?_|refine z_Q (by omega) ?_|refine z_R (by omega) ?_|refine z_S (by omega) ?_|refine z_T (by omega) ?_|refine z_U (by omega) ?_|refine z_V (by omega) ?_|refine z_W (by omega) ?_|refine z_X (by omega) ?_|refine z_Y ?_|refine z_Z ?_|refine z_a1 ?_|refine z_b1 ?_|refine z_c1 ?_|refine z_d1 ?_|refine z_e1 ?_|refine z_f1 ?_|refine z_g1 ?_)
    refine st szLs (own1 ho6) (by rw [hg6.cell 0]; rfl) (hg6.frozen 0) ?_
    have hT7 := Turns.setCell (F := fun k => k = g) (p := ⟨g, 0, none⟩) (Turns.refl _ w6) (.inl rfl) v6
    have hgc : col (col c w.heap.size 999) w5.heap.size hu g = hu := by rw [col_lt _ _ _ g hA5.blk.lt]; exact hA5.hug
    refine hJ _ _ ⟨rfl, col (col c w.heap.size 999) w5.heap.size hu, fun j hj => ?_, ⟨v6, M ++ [⟨vc, vr, ⟨fs, 1, [allR]⟩⟩], ⟨⟨hL6.hh, ?_, hL6.hue, fun m hm => ?_⟩, hgc, hg6.set_ 0 v6⟩, ?_⟩, ?_⟩
    · rw [col_lt _ _ _ j (by omega), hcc j hj]
    · exact ownsRow_turns hL6.row hT7 fun b hb e => bd_ne hL6.row hg6 (by decide) hb e.symm
    · refine (hL6.el m hm).turns hT7 fun b hb => ?_
      have hhh := hL6.hh
      rw [hb, hgc]
      omega
    · unfold absB
      rw [List.map_append]
      rfl
    · refine Turns.stepC (hu := hu) (Turns.of_below hb5) (c1 := col c w.heap.size 999) hcc ?_
      exact hT6'.trans (hT7.mono fun b hb e => .inl (by show col c w.heap.size 999 b = hu; rw [e]; exact hA5.hug))
end
end Go.Proofs.Ytcfncjejpjjhdaa.E
namespace Go.Proofs.Ytcfncjejpjjhdaa.E
open Go Go.RowKit
set_option linter.unusedSimpArgs false
set_option linter.unusedVariables false

theorem goV_count : ∀ (V : BdV) (k : Nat), ((V.zipIdx k).filterMap fun p => if p.1.st = 3 then some (p.2 : Int) else none).length = V.countP fun x => decide (x.st = 3)
  | [], k => rfl
  | x :: V, k => by
    have ih := goV_count V (k + 1)
    rw [List.zipIdx_cons, List.filterMap_cons, List.countP_cons]
    by_cases h : x.st = 3
    · simp only [h, if_true, decide_true, List.length_cons]
      rw [ih]
    · simp only [h, if_false, decide_false, Bool.false_eq_true]
      rw [ih]; rfl
theorem veV_count (V : BdV) : veV V = V.length + (V.countP fun x => decide (x.st = 3) : Nat) := by
  unfold veV goV
  rw [goV_count]
theorem veV_upd {V : BdV} {id : Int} (h1 : 1 ≤ id) (h2 : id ≤ V.length) {f : Ln → Ln} (ho : (V[(id - 1).toNat]'(by omega)).st ≠ 3) : veV (upd V id f) = veV V + if (f (V[(id - 1).toNat]'(by omega))).st = 3 then 1 else 0 := by
  rw [veV_count, veV_count, upd_set h1 h2, List.length_set, List.countP_set (h := by omega)]
  rw [decide_eq_false ho]
  simp only [Bool.false_eq_true, if_false, Nat.sub_zero, decide_eq_true_eq]
  split <;> omega
theorem ve_dr {V : BdV} (id : Int) {f : Ln → Ln} (hf : ∀ x, (f x).st = 3) : veV (drV V id f) = veV V + if stV V id = 1 ∨ stV V id = 2 then 1 else 0 := by
  unfold drV
  split
  · rename_i h
    obtain ⟨h1, h2⟩ := stV_in (V := V) (id := id) (by omega)
    rw [veV_upd h1 h2 (by rw [← stV_at h1 h2]; omega), if_pos (hf _)]
  · omega
theorem ve_re {V : BdV} (id : Int) {f : Ln → Ln} (hf : ∀ x, (f x).st ≠ 3) : veV (reV V id f) = veV V := by
  unfold reV
  split
  · rename_i h
    obtain ⟨h1, h2⟩ := stV_in (V := V) (id := id) (by omega)
    rw [veV_upd h1 h2 (by rw [← stV_at h1 h2]; omega), if_neg (hf _)]
    omega
  · rfl
theorem ve_one {V : BdV} {fs : List Int} {rs : List Rg} : veV (V ++ [⟨fs, 1, rs⟩]) = veV V + 1 := by
  rw [veV_count, veV_count, List.length_append, List.countP_append, List.length_cons, List.length_nil]
  have : List.countP (fun x : Ln => decide (x.st = 3)) [⟨fs, 1, rs⟩] = 0 := by simp
  rw [this]; omega
section
variable {hu : Nat} {c : Nat → Nat} {w : World} {g : Nat} {vL : Value} {n : Int} {M : List Lm} {V : BdV}
theorem RbAt.num (h : RbAt hu c w g vL n M) (m : Int) : (w.cell? ⟨g, 1, none⟩).isSome = true ∧ w.frozen? ⟨g, 1, none⟩ = false ∧ RbAt hu c (w.setCell ⟨g, 1, none⟩ (.int .i64 m)) g vL m M ∧ Turns (fun k => c k = hu) w (w.setCell ⟨g, 1, none⟩ (.int .i64 m)) := by
  have hT7 := Turns.setCell (F := fun k => k = g) (p := ⟨g, 1, none⟩) (Turns.refl _ w) (.inl rfl) (.int .i64 m)
  have hT : Turns (fun k => c k = hu) w (w.setCell ⟨g, 1, none⟩ (.int .i64 m)) := hT7.mono fun k hk e => by show c k = hu; rw [e]; exact h.hug
  have hhh := h.hh
  refine ⟨by rw [h.blk.cell 1]; rfl, h.blk.frozen 1, ⟨⟨h.hh, ?_, h.hue, fun x hx => ?_⟩, h.hug, h.blk.set_ 1 _⟩, hT⟩
  · exact ownsRow_turns h.row hT7 fun b hb e => bd_ne h.row h.blk (by decide) hb e.symm
  · exact (h.el x hx).turns hT fun k hk => by rw [hk]; omega
theorem refDrop17 (id : Int) (hid : id ≤ 9223372036854775807) (h : RbS hu c w g n V) (hn0 : 0 ≤ n) (hn : n ≤ 1000) :
    CallP Try.prog 17 #[.pointer (some ⟨g, 0, none⟩), .int .i64 id] (fun u w' => u = .int .i64 (drE V id) ∧ LeftE hu c w g (n + if stV V id = 1 ∨ stV V id = 2 then 1 else 0) (drV V id goneR) w') w := by
  refine ⟨S17.calls _ _ _ _ ?_⟩
  unfold S17
  refine (refState35 id h hid).mono ?_
  rintro _ _ ⟨rfl, rfl⟩
  obtain ⟨vL, M, h, rfl⟩ := h
  have no : ¬ (stV (absB M) id = 1 ∨ stV (absB M) id = 2) → Value.int .i64 7 = .int .i64 (drE (absB M) id) ∧ LeftE hu c w g (n + if stV (absB M) id = 1 ∨ stV (absB M) id = 2 then 1 else 0) (drV (absB M) id goneR) w := fun hs => by
    unfold drE drV
    rw [if_neg hs, if_neg hs, if_neg hs, Int.add_zero]
    exact ⟨rfl, c, fun _ _ => rfl, ⟨_, _, h, rfl⟩, Turns.refl _ w⟩
  have yes : (stV (absB M) id = 1 ∨ stV (absB M) id = 2) → ∃ i : Nat, ∃ hi : i < M.length, id = i + 1 ∧ (M[i].x.st = 1 ∨ M[i].x.st = 2) := fun hs => by
    obtain ⟨q1, q2⟩ := stV_in (V := absB M) (id := id) (by omega)
    rw [absB_len] at q2
    refine ⟨(id - 1).toNat, by omega, by omega, ?_⟩
    rw [absB_st (M := M) (id - 1).toNat (by omega) (by omega)] at hs
    exact hs
  refine bi_neq_c (fun h1 => ?a) (fun h1 => ?b)
  case' a =>
    (repeat with_reducible first|refine z_a ?_|refine z_b ?_|refine z_c ?_|refine z_d ?_|refine z_e ?_|refine z_f ?_|refine z_g ?_|refine z_h ?_|refine z_i ?_|refine z_j ?_|refine z_k ?_|refine z_l ?_|refine z_m (by omega) ?_|refine z_n (by omega) ?_|refine z_o (by omega) ?_|refine z_p (by omega) ?_|refine z_q (by omega) ?_|refine z_r (by omega) ?_|refine z_s (by omega) ?_|refine z_t (by omega) ?_|refine z_u (by omega) ?_|refine z_v (by omega) ?_|refine z_w (by omega) ?_|refine z_x (by omega) ?_|refine z_y (by omega) ?_|refine z_z (by omega) ?_|refine z_A ?_|refine z_B ?_|refine z_C ?_|refine z_D ?_|refine z_E ?_|refine z_F ?_|refine z_G ?_|refine z_H ?_|refine z_I ?_)
    refine bi_neq_c (fun h2 => ?a1) (fun h2 => ?a2)
  case a1 =>
    (repeat with_reducible first|refine z_a ?_|refine z_b ?_|refine z_c ?_|refine z_d ?_|refine z_e ?_|refine z_f ?_|refine z_g ?_|refine z_h ?_|refine z_i ?_|refine z_j ?_|refine z_k ?_|refine z_l ?_|refine z_m (by omega) ?_|refine z_n (by omega) ?_|refine z_o (by omega) ?_|refine z_p (by omega) ?_|refine z_q (by omega) ?_|refine z_r (by omega) ?_|refine z_s (by omega) ?_|refine z_t (by omega) ?_|refine z_u (by omega) ?_|refine z_v (by omega) ?_|refine z_w (by omega) ?_|refine z_x (by omega) ?_|refine z_y (by omega) ?_|refine z_z (by omega) ?_|refine z_A ?_|refine z_B ?_|refine z_C ?_|refine z_D ?_|refine z_E ?_|refine z_F ?_|refine z_G ?_|refine z_H ?_|refine z_I ?_)
    exact no (by omega)
  all_goals
    have hs : stV (absB M) id = 1 ∨ stV (absB M) id = 2 := by omega
    obtain ⟨i, hi, rfl, hst⟩ := yes hs
    obtain ⟨gL, cL, hvL, _⟩ := h.at i hi
    have cc0 : w.cell? ⟨g, 0, none⟩ = some vL := h.blk.cell 0
    have e1 : ((i : Int) + 1 - 1) = (i : Int) := by omega
    (repeat with_reducible first | refine fd c0 (by decide) ?_| refine ld oneRls cc0 ?_|refine z_a ?_|refine z_b ?_|refine z_c ?_|refine z_d ?_|refine z_e ?_|refine z_f ?_|refine z_g ?_|refine z_h ?_|refine z_i ?_|refine z_j ?_|refine z_k ?_|refine z_l ?_|refine z_m (by omega) ?_|refine z_n (by omega) ?_|refine z_o (by omega) ?_|refine z_p (by omega) ?_|refine z_q (by omega) ?_|refine z_r (by omega) ?_|refine z_s (by omega) ?_|refine z_t (by omega) ?_|refine z_u (by omega) ?_|refine z_v (by omega) ?_|refine z_w (by omega) ?_|refine z_x (by omega) ?_|refine z_y (by omega) ?_|refine z_z (by omega) ?_|refine z_A ?_|refine z_B ?_|refine z_C ?_|refine z_D ?_|refine z_E ?_|refine z_F ?_|refine z_G ?_|refine z_H ?_|refine z_I ?_)
    rw [hvL, e1]
    (repeat with_reducible first | refine ixG undRs szRl i hi ?_| refine fdG m1 (by decide) ?_|refine z_a ?_|refine z_b ?_|refine z_c ?_|refine z_d ?_|refine z_e ?_|refine z_f ?_|refine z_g ?_|refine z_h ?_|refine z_i ?_|refine z_j ?_|refine z_k ?_|refine z_l ?_|refine z_m (by omega) ?_|refine z_n (by omega) ?_|refine z_o (by omega) ?_|refine z_p (by omega) ?_|refine z_q (by omega) ?_|refine z_r (by omega) ?_|refine z_s (by omega) ?_|refine z_t (by omega) ?_|refine z_u (by omega) ?_|refine z_v (by omega) ?_|refine z_w (by omega) ?_|refine z_x (by omega) ?_|refine z_y (by omega) ?_|refine z_z (by omega) ?_|refine z_A ?_|refine z_B ?_|refine z_C ?_|refine z_D ?_|refine z_E ?_|refine z_F ?_|refine z_G ?_|refine z_H ?_|refine z_I ?_)
    have hel := h.el _ (List.getElem_mem hi)
    obtain ⟨oc1, oc2, hB, hT⟩ := h.setC i hi 1 (by decide) (.int .i64 3) ⟨M[i].fv, M[i].rv, goneR M[i].x⟩ rfl ⟨hel.fo, hel.fh, hel.ro, hel.rh⟩ hvL
    refine st szI rfl oc1 oc2 ?_
    have cc1 : World.cell? _ ⟨g, 1, none⟩ = some (.int .i64 n) := hB.blk.cell 1
    obtain ⟨oc3, oc4, hB2, hT2⟩ := hB.num (n + 1)
    (repeat with_reducible first | refine fd c1 (by decide) ?_| refine ld oneI cc1 ?_|refine z_a ?_|refine z_b ?_|refine z_c ?_|refine z_d ?_|refine z_e ?_|refine z_f ?_|refine z_g ?_|refine z_h ?_|refine z_i ?_|refine z_j ?_|refine z_k ?_|refine z_l ?_|refine z_m (by omega) ?_|refine z_n (by omega) ?_|refine z_o (by omega) ?_|refine z_p (by omega) ?_|refine z_q (by omega) ?_|refine z_r (by omega) ?_|refine z_s (by omega) ?_|refine z_t (by omega) ?_|refine z_u (by omega) ?_|refine z_v (by omega) ?_|refine z_w (by omega) ?_|refine z_x (by omega) ?_|refine z_y (by omega) ?_|refine z_z (by omega) ?_|refine z_A ?_|refine z_B ?_|refine z_C ?_|refine z_D ?_|refine z_E ?_|refine z_F ?_|refine z_G ?_|refine z_H ?_|refine z_I ?_)
    refine st szI rfl oc3 oc4 ?_
    (repeat with_reducible first|refine z_a ?_|refine z_b ?_|refine z_c ?_|refine z_d ?_|refine z_e ?_|refine z_f ?_|refine z_g ?_|refine z_h ?_|refine z_i ?_|refine z_j ?_|refine z_k ?_|refine z_l ?_|refine z_m (by omega) ?_|refine z_n (by omega) ?_|refine z_o (by omega) ?_|refine z_p (by omega) ?_|refine z_q (by omega) ?_|refine z_r (by omega) ?_|refine z_s (by omega) ?_|refine z_t (by omega) ?_|refine z_u (by omega) ?_|refine z_v (by omega) ?_|refine z_w (by omega) ?_|refine z_x (by omega) ?_|refine z_y (by omega) ?_|refine z_z (by omega) ?_|refine z_A ?_|refine z_B ?_|refine z_C ?_|refine z_D ?_|refine z_E ?_|refine z_F ?_|refine z_G ?_|refine z_H ?_|refine z_I ?_)
    unfold drE drV
    rw [if_pos hs, if_pos hs, if_pos hs, upd_abs hi rfl (y := ⟨M[i].fv, M[i].rv, goneR M[i].x⟩) rfl]
    exact ⟨rfl, c, fun _ _ => rfl, ⟨_, _, hB2, rfl⟩, hT.trans (hT2.mono fun _ _ e => .inl e)⟩
theorem refReport18 (id : Int) (r : Rg) (hid : id ≤ 9223372036854775807) (h : RbS hu c w g n V) (hfull : ∀ x ∈ V, x.rs.length ≤ 100) :
    CallP Try.prog 18 #[.pointer (some ⟨g, 0, none⟩), .int .i64 id, rgV r] (fun u w' => u = .bool (reB V id (repR r)) ∧ LeftE hu c w g n (reV V id (repR r)) w') w := by
  refine ⟨S18.calls _ _ _ _ _ ?_⟩
  unfold S18
  refine bxB ?_
  intro gr w1 hgr hR1 hb1
  refine (refState35 id (h.below hb1) hid).mono ?_
  rintro _ _ ⟨rfl, rfl⟩
  obtain ⟨vL, M, h, rfl⟩ := h
  have hcc := col_lt c w.heap.size 999
  have h1 := h.below hb1
  refine bi_neq_c (fun hs => ?_) (fun hs => ?_)
  · (repeat with_reducible first|refine z_a ?_|refine z_b ?_|refine z_c ?_|refine z_d ?_|refine z_e ?_|refine z_f ?_|refine z_g ?_|refine z_h ?_|refine z_i ?_|refine z_j ?_|refine z_k ?_|refine z_l ?_|refine z_m (by omega) ?_|refine z_n (by omega) ?_|refine z_o (by omega) ?_|refine z_p (by omega) ?_|refine z_q (by omega) ?_|refine z_r (by omega) ?_|refine z_s (by omega) ?_|refine z_t (by omega) ?_|refine z_u (by omega) ?_|refine z_v (by omega) ?_|refine z_w (by omega) ?_|refine z_x (by omega) ?_|refine z_y (by omega) ?_|refine z_z (by omega) ?_|refine z_A ?_|refine z_B ?_|refine z_C ?_|refine z_D ?_|refine z_E ?_|refine z_F ?_|refine z_G ?_|refine z_H ?_|refine z_I ?_)
    refine ⟨by unfold reB; exact fB fun e => hs e.1, ?_⟩
    unfold reV
    rw [if_neg hs]
    exact ⟨c, fun _ _ => rfl, ⟨_, _, h1, rfl⟩, Turns.of_below hb1⟩
  obtain ⟨i0, i1⟩ := stV_in (V := absB M) (id := id) (by omega)
  rw [absB_len] at i1
  obtain ⟨i, hi, rfl⟩ : ∃ i : Nat, i < M.length ∧ id = i + 1 := ⟨(id - 1).toNat, by omega, by omega⟩
  have hst : M[i].x.st = 1 := by rw [← absB_st i hi rfl]; exact hs
  have hrl : M[i].x.rs.length ≤ 100 := hfull _ (List.mem_map.2 ⟨_, List.getElem_mem hi, rfl⟩)
  have h1c := (h.re hcc).below hb1
  obtain ⟨gL, cL, hvL, _, _, q2⟩ := h1c.at i hi
  have cc0 : w1.cell? ⟨g, 0, none⟩ = some vL := h1.blk.cell 0
  have e1 : ((i : Int) + 1 - 1) = (i : Int) := by omega
  have hel := h1c.el _ (List.getElem_mem hi)
  (repeat with_reducible first | refine fd c0 (by decide) ?_| refine ld oneRls cc0 ?_|refine z_a ?_|refine z_b ?_|refine z_c ?_|refine z_d ?_|refine z_e ?_|refine z_f ?_|refine z_g ?_|refine z_h ?_|refine z_i ?_|refine z_j ?_|refine z_k ?_|refine z_l ?_|refine z_m (by omega) ?_|refine z_n (by omega) ?_|refine z_o (by omega) ?_|refine z_p (by omega) ?_|refine z_q (by omega) ?_|refine z_r (by omega) ?_|refine z_s (by omega) ?_|refine z_t (by omega) ?_|refine z_u (by omega) ?_|refine z_v (by omega) ?_|refine z_w (by omega) ?_|refine z_x (by omega) ?_|refine z_y (by omega) ?_|refine z_z (by omega) ?_|refine z_A ?_|refine z_B ?_|refine z_C ?_|refine z_D ?_|refine z_E ?_|refine z_F ?_|refine z_G ?_|refine z_H ?_|refine z_I ?_)
  rw [e1, hvL]
  (repeat with_reducible first | refine ixG undRs szRl i hi ?_| refine fdG m2 (by decide) ?_| refine ld oneRgs q2 ?_|refine z_a ?_|refine z_b ?_|refine z_c ?_|refine z_d ?_|refine z_e ?_|refine z_f ?_|refine z_g ?_|refine z_h ?_|refine z_i ?_|refine z_j ?_|refine z_k ?_|refine z_l ?_|refine z_m (by omega) ?_|refine z_n (by omega) ?_|refine z_o (by omega) ?_|refine z_p (by omega) ?_|refine z_q (by omega) ?_|refine z_r (by omega) ?_|refine z_s (by omega) ?_|refine z_t (by omega) ?_|refine z_u (by omega) ?_|refine z_v (by omega) ?_|refine z_w (by omega) ?_|refine z_x (by omega) ?_|refine z_y (by omega) ?_|refine z_z (by omega) ?_|refine z_A ?_|refine z_B ?_|refine z_C ?_|refine z_D ?_|refine z_E ?_|refine z_F ?_|refine z_G ?_|refine z_H ?_|refine z_I ?_)
  refine apRm w1.heap.size und26 inf23 (by rfl) (by decide) (xs := []) (n := 0) (v := .slice none 0 0) ⟨rfl, .inl ⟨rfl, rfl⟩⟩ (Fresh.nil _) (Nat.le_refl _) rgF_len (fun x _ => rgF_one x) hel.rrd (by omega) (by omega) ?_
  intro v2 w2 ho2 hf2 h2
  rw [Nat.zero_add, List.nil_append] at ho2
  refine ldA agg23 (hR1.below' h2) (by rw [sz23]; rfl) ?_
  refine OwnA.push (⟨ho2, hf2⟩ : OwnA w1.heap.size w2 v2 M[i].x.rs) h2.size (by omega) r ?_
  intro v3 w3 ho3 _ h3
  have h13 := h2.trans h3
  refine (least21 v3 _ (by simp; omega) w3 ho3.rd).mono ?_
  rintro v4 w4 ⟨out, hout, ho4, h4⟩
  have := hout.eq
  subst this
  have hb14 := below_then h13 h4
  have hb4 := below_then hb1 hb14
  have hA4 := h1c.below hb14
  have hs1 := hb1.size
  have hs3 := h13.size
  have hfr : ∀ b, v4.ownBlock = some b → w.heap.size ≤ b := fun b hb => by have := ho4.2 b hb; omega
  have hY : LmAt (col c w.heap.size 999) w4 ⟨M[i].fv, v4, ⟨M[i].x.fs, 1, lst (M[i].x.rs ++ [r])⟩⟩ :=
    ⟨(hel.below hb14).fo, (hel.below hb14).fh, OwnR.of_own ho4.1, fun b hb => col_ge _ _ _ (hfr b hb)⟩
  obtain ⟨A4, c4, hv4⟩ := ho4.slice
  have hone : v4.oneCell' = true := by rw [hv4]; rfl
  have cc4 : w4.cell? ⟨g, 0, none⟩ = some vL := hA4.blk.cell 0
  obtain ⟨oc1, oc2, hB4, hT4⟩ := hA4.setC i hi 2 (by decide) v4 ⟨M[i].fv, v4, ⟨M[i].x.fs, 1, lst (M[i].x.rs ++ [r])⟩⟩ (by simp [lmF, hst]) hY hvL
  have hT04 := Turns.stepC (hu := hu) (c := c) (Turns.of_below hb4) hcc hT4
  (repeat with_reducible first | refine fd c0 (by decide) ?_| refine ld oneRls cc4 ?_|refine z_a ?_|refine z_b ?_|refine z_c ?_|refine z_d ?_|refine z_e ?_|refine z_f ?_|refine z_g ?_|refine z_h ?_|refine z_i ?_|refine z_j ?_|refine z_k ?_|refine z_l ?_|refine z_m (by omega) ?_|refine z_n (by omega) ?_|refine z_o (by omega) ?_|refine z_p (by omega) ?_|refine z_q (by omega) ?_|refine z_r (by omega) ?_|refine z_s (by omega) ?_|refine z_t (by omega) ?_|refine z_u (by omega) ?_|refine z_v (by omega) ?_|refine z_w (by omega) ?_|refine z_x (by omega) ?_|refine z_y (by omega) ?_|refine z_z (by omega) ?_|refine z_A ?_|refine z_B ?_|refine z_C ?_|refine z_D ?_|refine z_E ?_|refine z_F ?_|refine z_G ?_|refine z_H ?_|refine z_I ?_)
  rw [e1, hvL]
  (repeat with_reducible first | refine ixG undRs szRl i hi ?_| refine fdG m2 (by decide) ?_|refine z_a ?_|refine z_b ?_|refine z_c ?_|refine z_d ?_|refine z_e ?_|refine z_f ?_|refine z_g ?_|refine z_h ?_|refine z_i ?_|refine z_j ?_|refine z_k ?_|refine z_l ?_|refine z_m (by omega) ?_|refine z_n (by omega) ?_|refine z_o (by omega) ?_|refine z_p (by omega) ?_|refine z_q (by omega) ?_|refine z_r (by omega) ?_|refine z_s (by omega) ?_|refine z_t (by omega) ?_|refine z_u (by omega) ?_|refine z_v (by omega) ?_|refine z_w (by omega) ?_|refine z_x (by omega) ?_|refine z_y (by omega) ?_|refine z_z (by omega) ?_|refine z_A ?_|refine z_B ?_|refine z_C ?_|refine z_D ?_|refine z_E ?_|refine z_F ?_|refine z_G ?_|refine z_H ?_|refine z_I ?_)
  refine st szRgs hone oc1 oc2 ?_
  have hlen : (M.set i ⟨M[i].fv, v4, ⟨M[i].x.fs, 1, lst (M[i].x.rs ++ [r])⟩⟩).length = M.length := List.length_set
  have hi5 : i < (M.set i ⟨M[i].fv, v4, ⟨M[i].x.fs, 1, lst (M[i].x.rs ++ [r])⟩⟩).length := by rw [hlen]; exact hi
  generalize w4.setCell ⟨gL, i * 3 + 2, none⟩ v4 = w5 at *
  have hel5 := hB4.el _ (List.getElem_mem hi5)
  rw [List.getElem_set_self] at hel5
  have hrd5 : RgR w5 [v4] (lst (M[i].x.rs ++ [r])) := hel5.rrd
  have fin : (lst (M[i].x.rs ++ [r]) ≠ [allR]) → Value.bool false = .bool (reB (absB M) ((i : Int) + 1) (repR r)) ∧ LeftE hu c w g n (reV (absB M) ((i : Int) + 1) (repR r)) w5 := fun hne => by
    refine ⟨?_, ?_⟩
    · unfold reB
      rw [upd_st hi rfl]
      refine fB fun e => ?_
      have e2 := e.2
      unfold repR at e2
      simp only [if_neg hne] at e2
      omega
    · unfold reV
      rw [if_pos hs, upd_abs hi rfl (y := ⟨M[i].fv, v4, ⟨M[i].x.fs, 1, lst (M[i].x.rs ++ [r])⟩⟩) (by unfold repR; rw [if_neg hne])]
      exact ⟨_, hcc, ⟨_, _, hB4, rfl⟩, hT04⟩
  rw [hv4] at hrd5
  rw [hv4]
  refine ln und26 ?_
  refine bi_eql_c (fun hl1 => ?_) (fun hl1 => ?_)
  · have h01 : 0 < (lst (M[i].x.rs ++ [r])).length := by omega
    obtain ⟨a, ha, hcell⟩ := RgR.at hrd5 0 h01
    subst ha
    (repeat with_reducible first|refine z_a ?_|refine z_b ?_|refine z_c ?_|refine z_d ?_|refine z_e ?_|refine z_f ?_|refine z_g ?_|refine z_h ?_|refine z_i ?_|refine z_j ?_|refine z_k ?_|refine z_l ?_|refine z_m (by omega) ?_|refine z_n (by omega) ?_|refine z_o (by omega) ?_|refine z_p (by omega) ?_|refine z_q (by omega) ?_|refine z_r (by omega) ?_|refine z_s (by omega) ?_|refine z_t (by omega) ?_|refine z_u (by omega) ?_|refine z_v (by omega) ?_|refine z_w (by omega) ?_|refine z_x (by omega) ?_|refine z_y (by omega) ?_|refine z_z (by omega) ?_|refine z_A ?_|refine z_B ?_|refine z_C ?_|refine z_D ?_|refine z_E ?_|refine z_F ?_|refine z_G ?_|refine z_H ?_|refine z_I ?_)
    refine ixN und26 sz23 0 h01 ?_
    (repeat with_reducible first|refine z_a ?_|refine z_b ?_|refine z_c ?_|refine z_d ?_|refine z_e ?_|refine z_f ?_|refine z_g ?_|refine z_h ?_|refine z_i ?_|refine z_j ?_|refine z_k ?_|refine z_l ?_|refine z_m (by omega) ?_|refine z_n (by omega) ?_|refine z_o (by omega) ?_|refine z_p (by omega) ?_|refine z_q (by omega) ?_|refine z_r (by omega) ?_|refine z_s (by omega) ?_|refine z_t (by omega) ?_|refine z_u (by omega) ?_|refine z_v (by omega) ?_|refine z_w (by omega) ?_|refine z_x (by omega) ?_|refine z_y (by omega) ?_|refine z_z (by omega) ?_|refine z_A ?_|refine z_B ?_|refine z_C ?_|refine z_D ?_|refine z_E ?_|refine z_F ?_|refine z_G ?_|refine z_H ?_|refine z_I ?_)
    refine ldR (us := rgF (lst (M[i].x.rs ++ [r]))[0]) agg23 hcell (by rw [sz23]; rfl) ?_
    (repeat with_reducible first|refine z_a ?_|refine z_b ?_|refine z_c ?_|refine z_d ?_|refine z_e ?_|refine z_f ?_|refine z_g ?_|refine z_h ?_|refine z_i ?_|refine z_j ?_|refine z_k ?_|refine z_l ?_|refine z_m (by omega) ?_|refine z_n (by omega) ?_|refine z_o (by omega) ?_|refine z_p (by omega) ?_|refine z_q (by omega) ?_|refine z_r (by omega) ?_|refine z_s (by omega) ?_|refine z_t (by omega) ?_|refine z_u (by omega) ?_|refine z_v (by omega) ?_|refine z_w (by omega) ?_|refine z_x (by omega) ?_|refine z_y (by omega) ?_|refine z_z (by omega) ?_|refine z_A ?_|refine z_B ?_|refine z_C ?_|refine z_D ?_|refine z_E ?_|refine z_F ?_|refine z_G ?_|refine z_H ?_|refine z_I ?_)
    refine bd (cells := rgA allR) (by kernel_rfl) ?_
    (repeat with_reducible first|refine z_a ?_|refine z_b ?_|refine z_c ?_|refine z_d ?_|refine z_e ?_|refine z_f ?_|refine z_g ?_|refine z_h ?_|refine z_i ?_|refine z_j ?_|refine z_k ?_|refine z_l ?_|refine z_m (by omega) ?_|refine z_n (by omega) ?_|refine z_o (by omega) ?_|refine z_p (by omega) ?_|refine z_q (by omega) ?_|refine z_r (by omega) ?_|refine z_s (by omega) ?_|refine z_t (by omega) ?_|refine z_u (by omega) ?_|refine z_v (by omega) ?_|refine z_w (by omega) ?_|refine z_x (by omega) ?_|refine z_y (by omega) ?_|refine z_z (by omega) ?_|refine z_A ?_|refine z_B ?_|refine z_C ?_|refine z_D ?_|refine z_E ?_|refine z_F ?_|refine z_G ?_|refine z_H ?_|refine z_I ?_)
    refine ofPR (pr_eql23 (lst (M[i].x.rs ++ [r]))[0] allR) ?_
    have hone1 : ∀ {l : List Rg} (h : 0 < l.length), l.length = 1 → l = [l[0]] := fun {l} h h1 => by
      match l, h1 with
      | [x], _ => rfl
    have hl1' : (lst (M[i].x.rs ++ [r])).length = 1 := by omega
    rcases Classical.em ((lst (M[i].x.rs ++ [r]))[0] = allR) with hq | hq
    · rw [decide_eq_true hq]
      have hall : lst (M[i].x.rs ++ [r]) = [allR] := (hone1 h01 hl1').trans (by rw [hq])
      have hY6 : LmAt (col c w.heap.size 999) w5 ⟨M[i].fv, v4, ⟨M[i].x.fs, 2, lst (M[i].x.rs ++ [r])⟩⟩ := ⟨hel5.fo, hel5.fh, hel5.ro, hel5.rh⟩
      obtain ⟨oc3, oc4, hB6, hT6⟩ := hB4.setC i hi5 1 (by decide) (.int .i64 2) ⟨M[i].fv, v4, ⟨M[i].x.fs, 2, lst (M[i].x.rs ++ [r])⟩⟩ (by rw [List.getElem_set_self]; rfl) hY6 hvL
      rw [List.set_set] at hB6
      have hT06 := Turns.stepC (hu := hu) hT04 hcc hT6
      have cc5 : w5.cell? ⟨g, 0, none⟩ = some vL := hB4.blk.cell 0
      (repeat with_reducible first | refine fd c0 (by decide) ?_| refine ld oneRls cc5 ?_|refine z_a ?_|refine z_b ?_|refine z_c ?_|refine z_d ?_|refine z_e ?_|refine z_f ?_|refine z_g ?_|refine z_h ?_|refine z_i ?_|refine z_j ?_|refine z_k ?_|refine z_l ?_|refine z_m (by omega) ?_|refine z_n (by omega) ?_|refine z_o (by omega) ?_|refine z_p (by omega) ?_|refine z_q (by omega) ?_|refine z_r (by omega) ?_|refine z_s (by omega) ?_|refine z_t (by omega) ?_|refine z_u (by omega) ?_|refine z_v (by omega) ?_|refine z_w (by omega) ?_|refine z_x (by omega) ?_|refine z_y (by omega) ?_|refine z_z (by omega) ?_|refine z_A ?_|refine z_B ?_|refine z_C ?_|refine z_D ?_|refine z_E ?_|refine z_F ?_|refine z_G ?_|refine z_H ?_|refine z_I ?_)
      rw [e1, hvL]
      (repeat with_reducible first | refine ixG undRs szRl i hi ?_| refine fdG m1 (by decide) ?_|refine z_a ?_|refine z_b ?_|refine z_c ?_|refine z_d ?_|refine z_e ?_|refine z_f ?_|refine z_g ?_|refine z_h ?_|refine z_i ?_|refine z_j ?_|refine z_k ?_|refine z_l ?_|refine z_m (by omega) ?_|refine z_n (by omega) ?_|refine z_o (by omega) ?_|refine z_p (by omega) ?_|refine z_q (by omega) ?_|refine z_r (by omega) ?_|refine z_s (by omega) ?_|refine z_t (by omega) ?_|refine z_u (by omega) ?_|refine z_v (by omega) ?_|refine z_w (by omega) ?_|refine z_x (by omega) ?_|refine z_y (by omega) ?_|refine z_z (by omega) ?_|refine z_A ?_|refine z_B ?_|refine z_C ?_|refine z_D ?_|refine z_E ?_|refine z_F ?_|refine z_G ?_|refine z_H ?_|refine z_I ?_)
      refine st szI rfl oc3 oc4 ?_
      (repeat with_reducible first|refine z_a ?_|refine z_b ?_|refine z_c ?_|refine z_d ?_|refine z_e ?_|refine z_f ?_|refine z_g ?_|refine z_h ?_|refine z_i ?_|refine z_j ?_|refine z_k ?_|refine z_l ?_|refine z_m (by omega) ?_|refine z_n (by omega) ?_|refine z_o (by omega) ?_|refine z_p (by omega) ?_|refine z_q (by omega) ?_|refine z_r (by omega) ?_|refine z_s (by omega) ?_|refine z_t (by omega) ?_|refine z_u (by omega) ?_|refine z_v (by omega) ?_|refine z_w (by omega) ?_|refine z_x (by omega) ?_|refine z_y (by omega) ?_|refine z_z (by omega) ?_|refine z_A ?_|refine z_B ?_|refine z_C ?_|refine z_D ?_|refine z_E ?_|refine z_F ?_|refine z_G ?_|refine z_H ?_|refine z_I ?_)
      refine ⟨?_, ?_⟩
      · unfold reB
        rw [upd_st hi rfl]
        refine tB ⟨hs, ?_⟩
        unfold repR
        simp only [if_pos hall]
      · unfold reV
        rw [if_pos hs, upd_abs hi rfl (y := ⟨M[i].fv, v4, ⟨M[i].x.fs, 2, lst (M[i].x.rs ++ [r])⟩⟩) (by unfold repR; rw [if_pos hall])]
        exact ⟨_, hcc, ⟨_, _, hB6, rfl⟩, hT06⟩
    · rw [decide_eq_false hq]
      (repeat with_reducible first|refine z_a ?_|refine z_b ?_|refine z_c ?_|refine z_d ?_|refine z_e ?_|refine z_f ?_|refine z_g ?_|refine z_h ?_|refine z_i ?_|refine z_j ?_|refine z_k ?_|refine z_l ?_|refine z_m (by omega) ?_|refine z_n (by omega) ?_|refine z_o (by omega) ?_|refine z_p (by omega) ?_|refine z_q (by omega) ?_|refine z_r (by omega) ?_|refine z_s (by omega) ?_|refine z_t (by omega) ?_|refine z_u (by omega) ?_|refine z_v (by omega) ?_|refine z_w (by omega) ?_|refine z_x (by omega) ?_|refine z_y (by omega) ?_|refine z_z (by omega) ?_|refine z_A ?_|refine z_B ?_|refine z_C ?_|refine z_D ?_|refine z_E ?_|refine z_F ?_|refine z_G ?_|refine z_H ?_|refine z_I ?_)
      exact fin fun e => hq (by simp only [e, List.getElem_cons_zero])
  · (repeat with_reducible first|refine z_a ?_|refine z_b ?_|refine z_c ?_|refine z_d ?_|refine z_e ?_|refine z_f ?_|refine z_g ?_|refine z_h ?_|refine z_i ?_|refine z_j ?_|refine z_k ?_|refine z_l ?_|refine z_m (by omega) ?_|refine z_n (by omega) ?_|refine z_o (by omega) ?_|refine z_p (by omega) ?_|refine z_q (by omega) ?_|refine z_r (by omega) ?_|refine z_s (by omega) ?_|refine z_t (by omega) ?_|refine z_u (by omega) ?_|refine z_v (by omega) ?_|refine z_w (by omega) ?_|refine z_x (by omega) ?_|refine z_y (by omega) ?_|refine z_z (by omega) ?_|refine z_A ?_|refine z_B ?_|refine z_C ?_|refine z_D ?_|refine z_E ?_|refine z_F ?_|refine z_G ?_|refine z_H ?_|refine z_I ?_)
    exact fin fun e => hl1 (by rw [e]; rfl)
theorem refDeclare15 (vf : Value) (fs : List Int) (hf : Rd w vf (iV fs)) (hfl : fs.length ≤ 100000) (h : RbS hu c w g n V) (h6 : V.length ≤ 6) (hn0 : 0 ≤ n) (hn : n ≤ 1000) :
    CallP Try.prog 15 #[.pointer (some ⟨g, 0, none⟩), vf] (fun u w' => u = .tuple #[.int .i64 (deE V fs).1, .int .i64 (deE V fs).2] ∧ LeftE hu c w g (n + if V.length ≠ 6 ∧ ckI fs = 0 then 1 else 0) (deV V fs []) w') w := by
  obtain ⟨vL, M, h, rfl⟩ := h
  refine ⟨S15.calls _ _ _ _ ?_⟩
  unfold S15
  obtain ⟨A, cL, hvL, hml⟩ := h.slice
  obtain ⟨Af, cf, hvf, hf1, hf2⟩ := hf.slice
  have hlf : (iV fs).length = fs.length := List.length_map _
  rw [hlf] at hvf hf1
  rw [absB_len] at h6
  have cc0 : w.cell? ⟨g, 0, none⟩ = some vL := h.blk.cell 0
  have here : LeftE hu c w g n (absB M) w := ⟨c, fun _ _ => rfl, ⟨_, _, h, rfl⟩, Turns.refl _ w⟩
  (repeat with_reducible first | refine fd c0 (by decide) ?_| refine ld oneRls cc0 ?_|refine z_a ?_|refine z_b ?_|refine z_c ?_|refine z_d ?_|refine z_e ?_|refine z_f ?_|refine z_g ?_|refine z_h ?_|refine z_i ?_|refine z_j ?_|refine z_k ?_|refine z_l ?_|refine z_m (by omega) ?_|refine z_n (by omega) ?_|refine z_o (by omega) ?_|refine z_p (by omega) ?_|refine z_q (by omega) ?_|refine z_r (by omega) ?_|refine z_s (by omega) ?_|refine z_t (by omega) ?_|refine z_u (by omega) ?_|refine z_v (by omega) ?_|refine z_w (by omega) ?_|refine z_x (by omega) ?_|refine z_y (by omega) ?_|refine z_z (by omega) ?_|refine z_A ?_|refine z_B ?_|refine z_C ?_|refine z_D ?_|refine z_E ?_|refine z_F ?_|refine z_G ?_|refine z_H ?_|refine z_I ?_)
  rw [hvL]
  refine ln undRs ?_
  refine bi_geq_c (fun e6 => ?_) (fun e6 => ?_)
  · (repeat with_reducible first|refine z_a ?_|refine z_b ?_|refine z_c ?_|refine z_d ?_|refine z_e ?_|refine z_f ?_|refine z_g ?_|refine z_h ?_|refine z_i ?_|refine z_j ?_|refine z_k ?_|refine z_l ?_|refine z_m (by omega) ?_|refine z_n (by omega) ?_|refine z_o (by omega) ?_|refine z_p (by omega) ?_|refine z_q (by omega) ?_|refine z_r (by omega) ?_|refine z_s (by omega) ?_|refine z_t (by omega) ?_|refine z_u (by omega) ?_|refine z_v (by omega) ?_|refine z_w (by omega) ?_|refine z_x (by omega) ?_|refine z_y (by omega) ?_|refine z_z (by omega) ?_|refine z_A ?_|refine z_B ?_|refine z_C ?_|refine z_D ?_|refine z_E ?_|refine z_F ?_|refine z_G ?_|refine z_H ?_|refine z_I ?_)
    obtain ⟨d1, d2⟩ := de_many (V := absB M) (fs := fs) (by rw [absB_len]; omega)
    rw [d1, d2, if_neg (fun e => e.1 (by rw [absB_len]; omega)), Int.add_zero]
    exact ⟨rfl, here⟩
  (repeat with_reducible first|refine z_a ?_|refine z_b ?_|refine z_c ?_|refine z_d ?_|refine z_e ?_|refine z_f ?_|refine z_g ?_|refine z_h ?_|refine z_i ?_|refine z_j ?_|refine z_k ?_|refine z_l ?_|refine z_m (by omega) ?_|refine z_n (by omega) ?_|refine z_o (by omega) ?_|refine z_p (by omega) ?_|refine z_q (by omega) ?_|refine z_r (by omega) ?_|refine z_s (by omega) ?_|refine z_t (by omega) ?_|refine z_u (by omega) ?_|refine z_v (by omega) ?_|refine z_w (by omega) ?_|refine z_x (by omega) ?_|refine z_y (by omega) ?_|refine z_z (by omega) ?_|refine z_A ?_|refine z_B ?_|refine z_C ?_|refine z_D ?_|refine z_E ?_|refine z_F ?_|refine z_G ?_|refine z_H ?_|refine z_I ?_)
  rw [hvf]
  refine bd (cells := #[.int .i64 1, .slice Af fs.length cf]) (by kernel_rfl) ?_
  rw [← hvf]
  refine (CheckIndex34 1 vf fs w hf).mono ?_
  rintro _ w1 ⟨rfl, hb1⟩
  rw [ckX_in (by omega)]
  have h1 := h.below hb1
  refine bi_neq_c (fun hck => ?_) (fun hck => ?_)
  · (repeat with_reducible first|refine z_a ?_|refine z_b ?_|refine z_c ?_|refine z_d ?_|refine z_e ?_|refine z_f ?_|refine z_g ?_|refine z_h ?_|refine z_i ?_|refine z_j ?_|refine z_k ?_|refine z_l ?_|refine z_m (by omega) ?_|refine z_n (by omega) ?_|refine z_o (by omega) ?_|refine z_p (by omega) ?_|refine z_q (by omega) ?_|refine z_r (by omega) ?_|refine z_s (by omega) ?_|refine z_t (by omega) ?_|refine z_u (by omega) ?_|refine z_v (by omega) ?_|refine z_w (by omega) ?_|refine z_x (by omega) ?_|refine z_y (by omega) ?_|refine z_z (by omega) ?_|refine z_A ?_|refine z_B ?_|refine z_C ?_|refine z_D ?_|refine z_E ?_|refine z_F ?_|refine z_G ?_|refine z_H ?_|refine z_I ?_)
    obtain ⟨d1, d2⟩ := de_bad (V := absB M) (fs := fs) (by rw [absB_len]; omega) hck
    rw [d1, d2, if_neg (fun e => hck e.2), Int.add_zero]
    exact ⟨rfl, here.below hb1⟩
  have hckl := ckI_len hck
  obtain ⟨d1, d2⟩ := de_good (V := absB M) (fs := fs) (by rw [absB_len]; omega) hck
  rw [d1, d2, if_pos ⟨by rw [absB_len]; omega, hck⟩]
  (repeat with_reducible first|refine z_a ?_|refine z_b ?_|refine z_c ?_|refine z_d ?_|refine z_e ?_|refine z_f ?_|refine z_g ?_|refine z_h ?_|refine z_i ?_|refine z_j ?_|refine z_k ?_|refine z_l ?_|refine z_m (by omega) ?_|refine z_n (by omega) ?_|refine z_o (by omega) ?_|refine z_p (by omega) ?_|refine z_q (by omega) ?_|refine z_r (by omega) ?_|refine z_s (by omega) ?_|refine z_t (by omega) ?_|refine z_u (by omega) ?_|refine z_v (by omega) ?_|refine z_w (by omega) ?_|refine z_x (by omega) ?_|refine z_y (by omega) ?_|refine z_z (by omega) ?_|refine z_A ?_|refine z_B ?_|refine z_C ?_|refine z_D ?_|refine z_E ?_|refine z_F ?_|refine z_G ?_|refine z_H ?_|refine z_I ?_)
  have hdr : Below w1.heap.size w1 w1.drew := (Below.refl _ _).drew
  have hbd := below_then hb1 hdr
  have hAd := h.below hbd
  have rdS : ∀ w' : World, w'.cell? ⟨g, 0, none⟩ = some vL → w'.cell? ⟨g, 0, none⟩ = some vL := fun _ h => h
  refine draw (fun w' : World => w'.cell? ⟨g, 0, none⟩ = some vL) (hAd.blk.cell 0) ?_
  generalize w1.drew = wd at *
  (repeat with_reducible first | refine yfd c0 (by decide) ?_| refine yl1 oneRls rdS ?_|refine z_J ?_|refine z_a ?_|refine z_b ?_|refine z_c ?_|refine z_d ?_|refine z_e ?_|refine z_f ?_|refine z_g ?_|refine z_h ?_|refine z_i ?_|refine z_j ?_|refine z_k ?_|refine z_l ?_|refine z_K (by omega) ?_|refine z_L (by omega) ?_|refine z_M (by omega) ?_|refine z_N (by omega) ?_|refine z_O (by omega) ?_|refine z_P (by omega) ?_|refine z_Q (by omega) ?_|refine z_R (by omega) ?_|refine z_S (by omega) ?_|refine z_T (by omega) ?_|refine z_U (by omega) ?_|refine z_V (by omega) ?_|refine z_W (by omega) ?_|refine z_X (by omega) ?_|refine z_Y ?_|refine z_Z ?_|refine z_a1 ?_|refine z_b1 ?_|refine z_c1 ?_|refine z_d1 ?_|refine z_e1 ?_|refine z_f1 ?_|refine z_g1 ?_)
  refine act ?_
  refine apF wd.heap.size undIs infI (by rfl) (by decide) (Own.nil 3 wd) (Fresh.nil _) (Nat.le_refl _) (hf.below hbd) (fun u hu => by obtain ⟨n, _, rfl⟩ := List.mem_map.1 hu; rfl) (by rw [List.length_map]; simp; omega) ?_
  intro vc w5 hoc hfc h5 _
  rw [List.nil_append] at hoc
  have hb5 := below_then hbd h5
  refine ⟨_, (h.below hb5).blk.cell 0, fun _ h => h, ?_⟩
  have hcc := col_lt c w.heap.size 999
  have hA5 := (h.re hcc).below hb5
  have hs5 := hb5.size
  have hsd := hbd.size
  have hM : LmAt (col c w.heap.size 999) w5 ⟨vc, .slice none 0 0, ⟨fs, 1, []⟩⟩ := ⟨own_OwnR1 hoc, fun b hb => col_ge _ _ _ (by have := hfc b hb; omega), ⟨rfl, .inl ⟨rfl, rfl⟩⟩, InC.nil _ _ _ _⟩
  obtain ⟨A1, c1', e1⟩ := hoc.slice
  rw [e1]
  refine ybd (cells := #[.slice A1 (iV fs).length c1', .int .i64 1, .slice none 0 0]) (by kernel_rfl) ?_
  refine apOneA (us := [.slice A1 (iV fs).length c1', .int .i64 1, .slice none 0 0]) undRs infRl (by rfl) (by decide) hA5.row rfl (fun u hu => by
    simp only [List.mem_cons, List.not_mem_nil, or_false] at hu
    rcases hu with rfl | rfl | rfl <;> rfl) (by omega) (by omega) (by kernel_rfl) (fun w' hb => (hA5.below hb).blk.cell 0) ?_
  intro v6 w6 ho6 hbl6 hT6
  rw [← e1] at ho6
  obtain ⟨hL6, hT6'⟩ := hA5.toLnsAt.grow hM ho6 hbl6 hT6
  have hg6 : Blk w6 g 42 #[vL, .int .i64 n] := hA5.blk.turns hT6 fun e => bd_ne hA5.row hA5.blk (by decide) e rfl
  refine ⟨_, hg6.cell 0, fun _ h => h, ?_⟩
  (repeat with_reducible first | refine yfd c0 (by decide) ?_|refine z_J ?_|refine z_a ?_|refine z_b ?_|refine z_c ?_|refine z_d ?_|refine z_e ?_|refine z_f ?_|refine z_g ?_|refine z_h ?_|refine z_i ?_|refine z_j ?_|refine z_k ?_|refine z_l ?_|refine z_K (by omega) ?_|refine z_L (by omega) ?_|refine z_M (by omega) ?_|refine z_N (by omega) ?_|refine z_O (by omega) ?_|refine z_P (by omega) ?_|refine z_Q (by omega) ?_|refine z_R (by omega) ?_|refine z_S (by omega) ?_|refine z_T (by omega) ?_|refine z_U (by omega) ?_|refine z_V (by omega) ?_|refine z_W (by omega) ?_|refine z_X (by omega) ?_|refine z_Y ?_|refine z_Z ?_|refine z_a1 ?_|refine z_b1 ?_|refine z_c1 ?_|refine z_d1 ?_|refine z_e1 ?_|refine z_f1 ?_|refine z_g1 ?_)
  refine st szRls (own1 ho6) (by rw [hg6.cell 0]; rfl) (hg6.frozen 0) ?_
  have hT7 := Turns.setCell (F := fun k => k = g) (p := ⟨g, 0, none⟩) (Turns.refl _ w6) (.inl rfl) v6
  have hgc : col (col c w.heap.size 999) w5.heap.size hu g = hu := by rw [col_lt _ _ _ g hA5.blk.lt]; exact hA5.hug
  have hhh := hL6.hh
  have hB7 : RbAt hu (col (col c w.heap.size 999) w5.heap.size hu) (w6.setCell ⟨g, 0, none⟩ v6) g v6 n (M ++ [⟨vc, .slice none 0 0, ⟨fs, 1, []⟩⟩]) :=
    ⟨⟨hL6.hh, ownsRow_turns hL6.row hT7 fun b hb e => bd_ne hL6.row hg6 (by decide) hb e.symm, hL6.hue, fun m hm => (hL6.el m hm).turns hT7 fun b hb => by rw [hb, hgc]; omega⟩, hgc, hg6.set_ 0 v6⟩
  have hT07 : Turns (fun k => c k = hu) w (w6.setCell ⟨g, 0, none⟩ v6) := Turns.stepC (hu := hu) (Turns.of_below hb5) (c1 := col c w.heap.size 999) hcc (hT6'.trans (hT7.mono fun b hb e => .inl (by show col c w.heap.size 999 b = hu; rw [e]; exact hA5.hug)))
  have hcl : ∀ j, j < w.heap.size → col (col c w.heap.size 999) w5.heap.size hu j = c j := fun j hj => by rw [col_lt _ _ _ j (by omega), hcc j hj]
  generalize w6.setCell ⟨g, 0, none⟩ v6 = w7 at *
  have cc7 : World.cell? _ ⟨g, 1, none⟩ = some (.int .i64 n) := hB7.blk.cell 1
  obtain ⟨oc3, oc4, hB8, hT8⟩ := hB7.num (n + 1)
  (repeat with_reducible first | refine fd c1 (by decide) ?_| refine ld oneI cc7 ?_|refine z_a ?_|refine z_b ?_|refine z_c ?_|refine z_d ?_|refine z_e ?_|refine z_f ?_|refine z_g ?_|refine z_h ?_|refine z_i ?_|refine z_j ?_|refine z_k ?_|refine z_l ?_|refine z_m (by omega) ?_|refine z_n (by omega) ?_|refine z_o (by omega) ?_|refine z_p (by omega) ?_|refine z_q (by omega) ?_|refine z_r (by omega) ?_|refine z_s (by omega) ?_|refine z_t (by omega) ?_|refine z_u (by omega) ?_|refine z_v (by omega) ?_|refine z_w (by omega) ?_|refine z_x (by omega) ?_|refine z_y (by omega) ?_|refine z_z (by omega) ?_|refine z_A ?_|refine z_B ?_|refine z_C ?_|refine z_D ?_|refine z_E ?_|refine z_F ?_|refine z_G ?_|refine z_H ?_|refine z_I ?_)
  refine st szI rfl oc3 oc4 ?_
  have cc8 : World.cell? _ ⟨g, 0, none⟩ = some v6 := hB8.blk.cell 0
  (repeat with_reducible first | refine fd c0 (by decide) ?_| refine ld oneRls cc8 ?_|refine z_a ?_|refine z_b ?_|refine z_c ?_|refine z_d ?_|refine z_e ?_|refine z_f ?_|refine z_g ?_|refine z_h ?_|refine z_i ?_|refine z_j ?_|refine z_k ?_|refine z_l ?_|refine z_m (by omega) ?_|refine z_n (by omega) ?_|refine z_o (by omega) ?_|refine z_p (by omega) ?_|refine z_q (by omega) ?_|refine z_r (by omega) ?_|refine z_s (by omega) ?_|refine z_t (by omega) ?_|refine z_u (by omega) ?_|refine z_v (by omega) ?_|refine z_w (by omega) ?_|refine z_x (by omega) ?_|refine z_y (by omega) ?_|refine z_z (by omega) ?_|refine z_A ?_|refine z_B ?_|refine z_C ?_|refine z_D ?_|refine z_E ?_|refine z_F ?_|refine z_G ?_|refine z_H ?_|refine z_I ?_)
  obtain ⟨A8, cL8, hv8, _⟩ := hB8.slice
  rw [hv8]
  refine ln undRs ?_
  have hl8 : (M ++ [(⟨vc, .slice none 0 0, ⟨fs, 1, []⟩⟩ : Lm)]).length = M.length + 1 := by simp
  rw [hl8]
  refine ⟨?_, _, hcl, ⟨_, _, hB8, ?_⟩, Turns.stepC (hu := hu) hT07 hcl hT8⟩
  · rw [absB_len]
    rfl
  · unfold absB
    rw [List.map_append]
    rfl
end
end Go.Proofs.Ytcfncjejpjjhdaa.E
