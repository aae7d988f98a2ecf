import Derived.Test.YtcfncjejpjjhdaaM6
namespace Go.Proofs.Ytcfncjejpjjhdaa.E
open Go Go.RowKit
set_option linter.unusedSimpArgs false
set_option linter.unusedVariables false

def txF (t : Txt) : List Value := [tS t]
theorem txF_len (t : Txt) : (txF t).length = 1 := rfl
theorem txF_one (t : Txt) : ∀ u ∈ txF t, u.oneCell' = true := by
  intro u hu
  simp only [txF, List.mem_cons, List.not_mem_nil, or_false] at hu
  subst hu; rfl
def OwnX (B : Nat) (w : World) (v : Value) (l : List Txt) : Prop := w.ownsRow 0 9 1 v l.length (l.flatMap txF) ∧ Fresh B v
theorem OwnX.rd {B : Nat} {w : World} {v : Value} {l : List Txt} (h : OwnX B w v l) : TxR w [v] l := (OwnR.of_own h.1).rd txF_len fun _ _ => rfl
theorem OwnX.kept {B : Nat} {w w' : World} {v : Value} {l : List Txt} (h : OwnX B w v l) (hb : Below w.heap.size w w') : OwnX B w' v l := ⟨ownsRow_turns h.1 (Turns.of_below (F := fun _ => False) hb) (fun _ _ h => h), h.2⟩
theorem OwnX.mono {B B' : Nat} {w : World} {v : Value} {l : List Txt} (h : OwnX B w v l) (hb : B' ≤ B) : OwnX B' w v l := ⟨h.1, fun k hk => Nat.le_trans hb (h.2 k hk)⟩
theorem OwnX.nil (B : Nat) (w : World) : OwnX B w (.slice none 0 0) [] := ⟨⟨rfl, .inl ⟨rfl, rfl⟩⟩, Fresh.nil B⟩
theorem OwnX.push {K : Value → World → Prop} {cs : Array Bool} {B : Nat} {w : World} {v : Value} {l : List Txt} (h : OwnX B w v l) (hB : B ≤ w.heap.size) (hl : l.length ≤ 100000) (t : Txt)
    (k : ∀ v' w', OwnX B w' v' (l ++ [t]) → Turns (fun j => v.ownBlock = some j) w w' → Below B w w' → K v' w') :
    LiftP Try.prog (Instr.buildSlice 73 1 #[(0, tS t)]) (fun u w => NextP Try.prog (builtin .append #[73, 73] 73 cs #[v, u]) K w) w := by
  refine apOneV (us := txF t) und60 inf9 (by rfl) (by decide) h.1 (txF_len _) (txF_one _) (by omega) (by omega) (by kernel_rfl) ?_
  intro v2 w2 ho2 hbl2 hT2
  have e : (l ++ [t]).flatMap txF = l.flatMap txF ++ txF t := by simp
  refine k v2 w2 ⟨by rw [e, List.length_append]; exact ho2, h.2.one hB hbl2⟩ hT2 (hT2.fresh h.2 hB)
theorem put65 (v : Value) (l : List Txt) (s : Txt) (hl : l.length ≤ 10000) (w : World) (hv : TxR w [v] l) :
    CallP Try.prog 57 #[v, tS s] (fun r w' => OwnX w.heap.size w' r (putT s l) ∧ Below w.heap.size w w') w := by
  obtain ⟨A, c, rfl, hc, hm⟩ := hv.slice
  refine ⟨S57.calls _ _ _ _ ?_⟩
  unfold S57
  refine LoopP.inv2 (fun ov iv w' => ∃ i : Nat, i ≤ l.length ∧ iv = .int .i64 i ∧ (∀ x ∈ l.take i, x < s) ∧ OwnX w.heap.size w' ov (l.take i) ∧ Below w.heap.size w w') (fun _ iv _ => l.length - (intOf iv).toNat)
    ⟨0, Nat.zero_le _, rfl, by simp, OwnX.nil _ _, Below.refl _ _⟩ ?_
  rintro ov _ w1 ⟨i, hi, rfl, hall, hov, hb1⟩ J hJ
  dsimp only [List.headD_cons, List.tail_cons]
  have hv1 := hv.kept hb1
  have hs1 := hb1.size
  have htl : (l.take i).length = i := by rw [List.length_take]; omega
  refine ln und60 ?_
  refine bi_lss_c (fun h => ?a) (fun h => ?b)
  case' a =>
    have hi' : i < l.length := by omega
    obtain ⟨a, ha, hcell⟩ := hv1.at i hi'
    subst ha
    (repeat with_reducible first | refine ixN und60 sz9 i hi' ?_| refine ld one9 hcell ?_|refine z_a ?_|refine z_b ?_|refine z_c ?_|refine z_d ?_|refine z_e ?_|refine z_f ?_|refine z_g ?_|refine z_h ?_|refine z_i ?_|refine z_j ?_|refine z_k ?_|refine z_l ?_|refine z_m (by omega) ?_|refine z_n (by omega) ?_|refine z_o (by omega) ?_|refine z_p (by omega) ?_|refine z_q (by omega) ?_|refine z_r (by omega) ?_|refine z_s (by omega) ?_|refine z_t (by omega) ?_|refine z_u (by omega) ?_|refine z_v (by omega) ?_|refine z_w (by omega) ?_|refine z_x (by omega) ?_|refine z_y (by omega) ?_|refine z_z (by omega) ?_|refine z_A ?_|refine z_B ?_|refine z_C ?_|refine z_D ?_|refine z_E ?_|refine z_F ?_|refine z_G ?_|refine z_H ?_|refine z_I ?_)
    refine tl_lss_c (fun h2 => ?a1) (fun h2 => ?a2)
  case a1 =>
    (repeat with_reducible first | refine ixN und60 sz9 i hi' ?_| refine ld one9 hcell ?_|refine z_a ?_|refine z_b ?_|refine z_c ?_|refine z_d ?_|refine z_e ?_|refine z_f ?_|refine z_g ?_|refine z_h ?_|refine z_i ?_|refine z_j ?_|refine z_k ?_|refine z_l ?_|refine z_m (by omega) ?_|refine z_n (by omega) ?_|refine z_o (by omega) ?_|refine z_p (by omega) ?_|refine z_q (by omega) ?_|refine z_r (by omega) ?_|refine z_s (by omega) ?_|refine z_t (by omega) ?_|refine z_u (by omega) ?_|refine z_v (by omega) ?_|refine z_w (by omega) ?_|refine z_x (by omega) ?_|refine z_y (by omega) ?_|refine z_z (by omega) ?_|refine z_A ?_|refine z_B ?_|refine z_C ?_|refine z_D ?_|refine z_E ?_|refine z_F ?_|refine z_G ?_|refine z_H ?_|refine z_I ?_)
    refine hov.push hs1 (by omega) _ ?_
    intro v2 w2 ho2 hT2 hb2
    (repeat with_reducible first|refine z_a ?_|refine z_b ?_|refine z_c ?_|refine z_d ?_|refine z_e ?_|refine z_f ?_|refine z_g ?_|refine z_h ?_|refine z_i ?_|refine z_j ?_|refine z_k ?_|refine z_l ?_|refine z_m (by omega) ?_|refine z_n (by omega) ?_|refine z_o (by omega) ?_|refine z_p (by omega) ?_|refine z_q (by omega) ?_|refine z_r (by omega) ?_|refine z_s (by omega) ?_|refine z_t (by omega) ?_|refine z_u (by omega) ?_|refine z_v (by omega) ?_|refine z_w (by omega) ?_|refine z_x (by omega) ?_|refine z_y (by omega) ?_|refine z_z (by omega) ?_|refine z_A ?_|refine z_B ?_|refine z_C ?_|refine z_D ?_|refine z_E ?_|refine z_F ?_|refine z_G ?_|refine z_H ?_|refine z_I ?_)
    refine hJ _ _ _ ⟨i + 1, by omega, by simp, fun x hx => ?_, by rw [List.take_succ_eq_append_getElem hi']; exact ho2, hb1.trans hb2⟩ (by simp [intOf]; omega)
    rcases mem_take_succ hi' hx with hx | rfl
    · exact hall x hx
    · exact h2
  case' a2 => have hstop : ∀ h : i < l.length, ¬ l[i] < s := fun _ => h2
  case' b => have hstop : ∀ h : i < l.length, ¬ l[i] < s := fun h => absurd h (by omega)
  all_goals
    (repeat with_reducible first|refine z_a ?_|refine z_b ?_|refine z_c ?_|refine z_d ?_|refine z_e ?_|refine z_f ?_|refine z_g ?_|refine z_h ?_|refine z_i ?_|refine z_j ?_|refine z_k ?_|refine z_l ?_|refine z_m (by omega) ?_|refine z_n (by omega) ?_|refine z_o (by omega) ?_|refine z_p (by omega) ?_|refine z_q (by omega) ?_|refine z_r (by omega) ?_|refine z_s (by omega) ?_|refine z_t (by omega) ?_|refine z_u (by omega) ?_|refine z_v (by omega) ?_|refine z_w (by omega) ?_|refine z_x (by omega) ?_|refine z_y (by omega) ?_|refine z_z (by omega) ?_|refine z_A ?_|refine z_B ?_|refine z_C ?_|refine z_D ?_|refine z_E ?_|refine z_F ?_|refine z_G ?_|refine z_H ?_|refine z_I ?_)
    refine hov.push hs1 (by omega) s ?_
    intro v2 w2 ho2 hT2 hb2
    have hb2' := hb1.trans hb2
    have hv2 := hv.kept hb2'
    have hs2 := hb2'.size
    refine JoinP.cut (fun xs w' => xs = [.int .i64 (if h : i < l.length then (if l[i] = s then i + 1 else i) else i : Nat)] ∧ w2 = w') (fun J2 hJ2 => ?_) (fun xs w' hI => ?_)
    · refine ln und60 ?_
      refine bi_lss_c (fun h3 => ?_) (fun h3 => ?_)
      · first
        | (exfalso; omega)
        | (have hi' : i < l.length := by omega
           obtain ⟨a', ha', hcell'⟩ := hv2.at i hi'
           cases ha'
           (repeat with_reducible first | refine ixN und60 sz9 i hi' ?_| refine ld one9 hcell' ?_|refine z_a ?_|refine z_b ?_|refine z_c ?_|refine z_d ?_|refine z_e ?_|refine z_f ?_|refine z_g ?_|refine z_h ?_|refine z_i ?_|refine z_j ?_|refine z_k ?_|refine z_l ?_|refine z_m (by omega) ?_|refine z_n (by omega) ?_|refine z_o (by omega) ?_|refine z_p (by omega) ?_|refine z_q (by omega) ?_|refine z_r (by omega) ?_|refine z_s (by omega) ?_|refine z_t (by omega) ?_|refine z_u (by omega) ?_|refine z_v (by omega) ?_|refine z_w (by omega) ?_|refine z_x (by omega) ?_|refine z_y (by omega) ?_|refine z_z (by omega) ?_|refine z_A ?_|refine z_B ?_|refine z_C ?_|refine z_D ?_|refine z_E ?_|refine z_F ?_|refine z_G ?_|refine z_H ?_|refine z_I ?_)
           refine tl_eql_c (fun h4 => ?_) (fun h4 => ?_)
           · (repeat with_reducible first|refine z_a ?_|refine z_b ?_|refine z_c ?_|refine z_d ?_|refine z_e ?_|refine z_f ?_|refine z_g ?_|refine z_h ?_|refine z_i ?_|refine z_j ?_|refine z_k ?_|refine z_l ?_|refine z_m (by omega) ?_|refine z_n (by omega) ?_|refine z_o (by omega) ?_|refine z_p (by omega) ?_|refine z_q (by omega) ?_|refine z_r (by omega) ?_|refine z_s (by omega) ?_|refine z_t (by omega) ?_|refine z_u (by omega) ?_|refine z_v (by omega) ?_|refine z_w (by omega) ?_|refine z_x (by omega) ?_|refine z_y (by omega) ?_|refine z_z (by omega) ?_|refine z_A ?_|refine z_B ?_|refine z_C ?_|refine z_D ?_|refine z_E ?_|refine z_F ?_|refine z_G ?_|refine z_H ?_|refine z_I ?_)
             refine hJ2 _ _ ⟨?_, rfl⟩
             rw [dif_pos hi', if_pos h4]
             simp
           · (repeat with_reducible first|refine z_a ?_|refine z_b ?_|refine z_c ?_|refine z_d ?_|refine z_e ?_|refine z_f ?_|refine z_g ?_|refine z_h ?_|refine z_i ?_|refine z_j ?_|refine z_k ?_|refine z_l ?_|refine z_m (by omega) ?_|refine z_n (by omega) ?_|refine z_o (by omega) ?_|refine z_p (by omega) ?_|refine z_q (by omega) ?_|refine z_r (by omega) ?_|refine z_s (by omega) ?_|refine z_t (by omega) ?_|refine z_u (by omega) ?_|refine z_v (by omega) ?_|refine z_w (by omega) ?_|refine z_x (by omega) ?_|refine z_y (by omega) ?_|refine z_z (by omega) ?_|refine z_A ?_|refine z_B ?_|refine z_C ?_|refine z_D ?_|refine z_E ?_|refine z_F ?_|refine z_G ?_|refine z_H ?_|refine z_I ?_)
             refine hJ2 _ _ ⟨?_, rfl⟩
             rw [dif_pos hi', if_neg h4])
      · (repeat with_reducible first|refine z_a ?_|refine z_b ?_|refine z_c ?_|refine z_d ?_|refine z_e ?_|refine z_f ?_|refine z_g ?_|refine z_h ?_|refine z_i ?_|refine z_j ?_|refine z_k ?_|refine z_l ?_|refine z_m (by omega) ?_|refine z_n (by omega) ?_|refine z_o (by omega) ?_|refine z_p (by omega) ?_|refine z_q (by omega) ?_|refine z_r (by omega) ?_|refine z_s (by omega) ?_|refine z_t (by omega) ?_|refine z_u (by omega) ?_|refine z_v (by omega) ?_|refine z_w (by omega) ?_|refine z_x (by omega) ?_|refine z_y (by omega) ?_|refine z_z (by omega) ?_|refine z_A ?_|refine z_B ?_|refine z_C ?_|refine z_D ?_|refine z_E ?_|refine z_F ?_|refine z_G ?_|refine z_H ?_|refine z_I ?_)
        refine hJ2 _ _ ⟨?_, rfl⟩
        rw [dif_neg (by omega)]
    · obtain ⟨rfl, rfl⟩ := hI
      dsimp only [List.headD_cons, List.tail_cons]
      have hsplit := putT_split s l i hi hall hstop
      generalize hj : (if h : i < l.length then (if l[i] = s then i + 1 else i) else i : Nat) = j at *
      have hjl : j ≤ l.length := by
        rw [← hj]
        by_cases hlt' : i < l.length
        · rw [dif_pos hlt']; split <;> omega
        · rw [dif_neg hlt']; exact hi
      refine ofPR (pr_cut und60 sz9 (.at _ _) .no .no hjl (fun _ => hjl) hc (Nat.le_refl _) (.inl rfl)) ?_
      have hcut := rRow.cutFrom hv2 j hjl
      refine apRm w.heap.size und60 inf9 (by rfl) (by decide) ho2.1 ho2.2 hs2 txF_len (fun x _ => txF_one x) hcut (by rw [List.length_drop, List.length_append, htl]; simp only [List.length_cons, List.length_nil]; omega) (by rw [List.length_drop, List.length_append, htl]; simp only [List.length_cons, List.length_nil]; omega) ?_
      intro v3 w3 ho3 hf3 hb3
      have e1 : (l.take i ++ [s]).flatMap txF ++ (l.drop j).flatMap txF = (putT s l).flatMap txF := by rw [← hsplit]; simp [List.flatMap_append]
      have e2 : (l.take i ++ [s]).length + (l.drop j).length = (putT s l).length := by rw [← hsplit]; simp; omega
      rw [e1, e2] at ho3
      exact ⟨⟨ho3, hf3⟩, hb2'.trans hb3⟩
end Go.Proofs.Ytcfncjejpjjhdaa.E
namespace Go.Proofs.Ytcfncjejpjjhdaa.E
open Go Go.RowKit
set_option linter.unusedSimpArgs false
set_option linter.unusedVariables false

theorem places_succ (l : List Rg) (k : Nat) (hk : k < l.length) : placesP (l.take (k + 1)) = putT l[k].2 (putT l[k].1 (placesP (l.take k))) := by
  unfold placesP
  rw [List.take_succ_eq_append_getElem hk, List.foldl_append]; rfl
theorem places44 (v : Value) (l : List Rg) (hl : l.length ≤ 1000) (w : World) (hv : RgR w [v] l) :
    CallP Try.prog 31 #[v] (fun r w' => OwnX w.heap.size w' r (placesP l) ∧ Below w.heap.size w w') w := by
  obtain ⟨A, c, rfl, hc, hm⟩ := hv.slice
  refine ⟨S31.calls _ _ _ ?_⟩
  unfold S31
  refine lift (v := .slice (some ⟨w.heap.size, 0, none⟩) 1 1) (w' := w.alloc (.cells #[tS []] 9)) (by kernel_rfl) ?_
  have ho0 : OwnX w.heap.size (w.alloc (.cells #[tS []] 9)) (.slice (some ⟨w.heap.size, 0, none⟩) 1 1) [[]] :=
    ⟨⟨rfl, .inr ⟨w.heap.size, 1, #[tS []], rfl, Nat.zero_le _, Blk.new w 9 _, Nat.le_refl _, by decide, rfl, rfl⟩⟩, Fresh.new (Nat.le_refl _) _ _⟩
  have hb0 := (Below.refl w.heap.size w).alloc (Nat.le_refl _) (.cells #[tS []] 9)
  generalize w.alloc (.cells #[tS []] 9) = w0 at *
  refine LoopP.inv2 (fun ov iv w' => ∃ k : Nat, k ≤ l.length ∧ iv = .int .i64 k ∧ OwnX w.heap.size w' ov (placesP (l.take k)) ∧ Below w.heap.size w w') (fun _ iv _ => l.length - (intOf iv).toNat)
    ⟨0, Nat.zero_le _, rfl, ho0, hb0⟩ ?_
  rintro ov _ w1 ⟨k, hk, rfl, hov, hb1⟩ J hJ
  dsimp only [List.headD_cons, List.tail_cons]
  have hs1 := hb1.size
  refine ln und26 ?_
  refine bi_lss_c (fun h => ?_) (fun h => ?_)
  · have hk' : k < l.length := by omega
    obtain ⟨a, rfl, hcell⟩ := (hv.kept hb1).at k hk'
    have c0 : w1.cell? ((a.add (k * 2)).add 0) = some (tS l[k].1) := hcell 0 _ rfl
    have c1 : w1.cell? ((a.add (k * 2)).add 1) = some (tS l[k].2) := hcell 1 _ rfl
    have keep : ∀ {p : Addr} {u : Value}, w1.cell? p = some u → ∀ w', Below w1.heap.size w1 w' → w'.cell? p = some u := fun h w' hw => by rw [hw.cell (World.block_lt_of_cell? _ _ h), h]
    have hdr : Below w1.heap.size w1 w1.drew := (Below.refl _ _).drew
    have hlen : (placesP (l.take k)).length ≤ 2001 := by
      have := places_len (l.take k)
      rw [List.length_take] at this; omega
    (repeat with_reducible first|refine z_a ?_|refine z_b ?_|refine z_c ?_|refine z_d ?_|refine z_e ?_|refine z_f ?_|refine z_g ?_|refine z_h ?_|refine z_i ?_|refine z_j ?_|refine z_k ?_|refine z_l ?_|refine z_m (by omega) ?_|refine z_n (by omega) ?_|refine z_o (by omega) ?_|refine z_p (by omega) ?_|refine z_q (by omega) ?_|refine z_r (by omega) ?_|refine z_s (by omega) ?_|refine z_t (by omega) ?_|refine z_u (by omega) ?_|refine z_v (by omega) ?_|refine z_w (by omega) ?_|refine z_x (by omega) ?_|refine z_y (by omega) ?_|refine z_z (by omega) ?_|refine z_A ?_|refine z_B ?_|refine z_C ?_|refine z_D ?_|refine z_E ?_|refine z_F ?_|refine z_G ?_|refine z_H ?_|refine z_I ?_)
    refine draw (Below w1.heap.size w1) hdr ?_
    have ho1 := hov.kept hdr
    generalize w1.drew = w2 at *
    refine yixA und26 sz23 k hk' ?_
    refine yfdA g0 (by decide) ?_
    refine yl1 one9 (keep c0) ?_
    refine yixA und26 sz23 k hk' ?_
    refine yfdA g1 (by decide) ?_
    refine yl1 one9 (keep c1) ?_
    refine act ?_
    refine (put65 ov _ l[k].1 (by omega) w2 ho1.rd).mono ?_
    rintro v3 w3 ⟨ho3, h3⟩
    have hd3 := below_then hdr h3
    refine ⟨_, hd3, fun _ h => h, ?_⟩
    refine act ?_
    refine (put65 v3 _ l[k].2 (by have := putT_len l[k].1 (placesP (l.take k)); omega) w3 ho3.rd).mono ?_
    rintro v4 w4 ⟨ho4, h4⟩
    have hd4 := below_then hd3 h4
    refine ⟨_, hd4, fun _ h => h, ?_⟩
    (repeat with_reducible first|refine z_a ?_|refine z_b ?_|refine z_c ?_|refine z_d ?_|refine z_e ?_|refine z_f ?_|refine z_g ?_|refine z_h ?_|refine z_i ?_|refine z_j ?_|refine z_k ?_|refine z_l ?_|refine z_m (by omega) ?_|refine z_n (by omega) ?_|refine z_o (by omega) ?_|refine z_p (by omega) ?_|refine z_q (by omega) ?_|refine z_r (by omega) ?_|refine z_s (by omega) ?_|refine z_t (by omega) ?_|refine z_u (by omega) ?_|refine z_v (by omega) ?_|refine z_w (by omega) ?_|refine z_x (by omega) ?_|refine z_y (by omega) ?_|refine z_z (by omega) ?_|refine z_A ?_|refine z_B ?_|refine z_C ?_|refine z_D ?_|refine z_E ?_|refine z_F ?_|refine z_G ?_|refine z_H ?_|refine z_I ?_)
    have hb4 := below_then hb1 hd4
    refine hJ _ _ _ ⟨k + 1, by omega, by simp, by rw [places_succ l k hk']; exact ho4.mono (by have := hd3.size; omega), hb4⟩ (by simp [intOf]; omega)
  · have : k = l.length := by omega
    subst this
    rw [List.take_length] at hov
    (repeat with_reducible first|refine z_a ?_|refine z_b ?_|refine z_c ?_|refine z_d ?_|refine z_e ?_|refine z_f ?_|refine z_g ?_|refine z_h ?_|refine z_i ?_|refine z_j ?_|refine z_k ?_|refine z_l ?_|refine z_m (by omega) ?_|refine z_n (by omega) ?_|refine z_o (by omega) ?_|refine z_p (by omega) ?_|refine z_q (by omega) ?_|refine z_r (by omega) ?_|refine z_s (by omega) ?_|refine z_t (by omega) ?_|refine z_u (by omega) ?_|refine z_v (by omega) ?_|refine z_w (by omega) ?_|refine z_x (by omega) ?_|refine z_y (by omega) ?_|refine z_z (by omega) ?_|refine z_A ?_|refine z_B ?_|refine z_C ?_|refine z_D ?_|refine z_E ?_|refine z_F ?_|refine z_G ?_|refine z_H ?_|refine z_I ?_)
    exact ⟨hov, hb1⟩
theorem getD_at {α : Type} {l : List α} {i : Nat} (h : i < l.length) (d : α) : l.getD i d = l[i] := by simp [List.getD_eq_getElem?_getD, h]
theorem formStep_len (at_ : List Txt) (is : List Bool) (out : List Rg) (i : Nat) : (formStep at_ is out i).length ≤ out.length + 1 := by
  unfold formStep
  split
  · split
    · simp
    · simp
  · omega
theorem formP_len (at_ : List Txt) (is : List Bool) : ∀ n, (formP at_ is n).length ≤ n
  | 0 => by simp [formP]
  | n + 1 => by
    have h1 := formP_len at_ is n
    have h2 := formStep_len at_ is (formP at_ is n) n
    rw [formP]; omega
theorem form45 (v u : Value) (at_ : List Txt) (is : List Bool) (hasc : Asc at_) (hlen : is.length = at_.length) (hl : at_.length ≤ 10000) (w : World) (hv : TxR w [v] at_) (hu : BoR w [u] is) :
    CallP Try.prog 58 #[v, u] (fun r w' => OwnA w.heap.size w' r (formP at_ is at_.length) ∧ Below w.heap.size w w') w := by
  obtain ⟨A, c, rfl, hc, hm⟩ := hv.slice
  obtain ⟨A2, c2, rfl, hc2, hm2⟩ := hu.slice
  refine ⟨S58.calls _ _ _ _ ?_⟩
  unfold S58
  refine LoopP.inv2 (fun ov iv w' => ∃ k : Nat, k ≤ at_.length ∧ iv = .int .i64 k ∧ OwnA w.heap.size w' ov (formP at_ is k) ∧ Below w.heap.size w w') (fun _ iv _ => at_.length - (intOf iv).toNat)
    ⟨0, Nat.zero_le _, rfl, OwnA.nil _ _, Below.refl _ _⟩ ?_
  rintro ov _ w1 ⟨k, hk, rfl, hov, hb1⟩ J hJ
  dsimp only [List.headD_cons, List.tail_cons]
  have hs1 := hb1.size
  refine ln und60 ?_
  refine bi_lss_c (fun h => ?_) (fun h => ?_)
  · have hk' : k < at_.length := by omega
    have hki : k < is.length := by omega
    have hfl := formP_len at_ is k
    have hspec := formP_spec hasc is k hk
    have hform : formP at_ is (k + 1) = formStep at_ is (formP at_ is k) k := rfl
    obtain ⟨a, rfl, hcell⟩ := (hv.kept hb1).at k hk'
    obtain ⟨b, rfl, hbell⟩ := (hu.kept hb1).at k hki
    (repeat with_reducible first|refine z_a ?_|refine z_b ?_|refine z_c ?_|refine z_d ?_|refine z_e ?_|refine z_f ?_|refine z_g ?_|refine z_h ?_|refine z_i ?_|refine z_j ?_|refine z_k ?_|refine z_l ?_|refine z_m (by omega) ?_|refine z_n (by omega) ?_|refine z_o (by omega) ?_|refine z_p (by omega) ?_|refine z_q (by omega) ?_|refine z_r (by omega) ?_|refine z_s (by omega) ?_|refine z_t (by omega) ?_|refine z_u (by omega) ?_|refine z_v (by omega) ?_|refine z_w (by omega) ?_|refine z_x (by omega) ?_|refine z_y (by omega) ?_|refine z_z (by omega) ?_|refine z_A ?_|refine z_B ?_|refine z_C ?_|refine z_D ?_|refine z_E ?_|refine z_F ?_|refine z_G ?_|refine z_H ?_|refine z_I ?_)
    refine JoinP.cut (fun xs w' => ∃ ov', xs = [ov'] ∧ OwnA w.heap.size w' ov' (formP at_ is (k + 1)) ∧ Below w.heap.size w w') (fun J1 hJ1 => ?_) (fun xs w' hI => ?_)
    · (repeat with_reducible first | refine ixN und62 sz4 k hki ?_|refine z_a ?_|refine z_b ?_|refine z_c ?_|refine z_d ?_|refine z_e ?_|refine z_f ?_|refine z_g ?_|refine z_h ?_|refine z_i ?_|refine z_j ?_|refine z_k ?_|refine z_l ?_|refine z_m (by omega) ?_|refine z_n (by omega) ?_|refine z_o (by omega) ?_|refine z_p (by omega) ?_|refine z_q (by omega) ?_|refine z_r (by omega) ?_|refine z_s (by omega) ?_|refine z_t (by omega) ?_|refine z_u (by omega) ?_|refine z_v (by omega) ?_|refine z_w (by omega) ?_|refine z_x (by omega) ?_|refine z_y (by omega) ?_|refine z_z (by omega) ?_|refine z_A ?_|refine z_B ?_|refine z_C ?_|refine z_D ?_|refine z_E ?_|refine z_F ?_|refine z_G ?_|refine z_H ?_|refine z_I ?_)
      have hgd := getD_at hki false
      cases hb : is[k] with
      | false =>
        rw [hb] at hbell
        (repeat with_reducible first | refine ld one4 hbell ?_|refine z_a ?_|refine z_b ?_|refine z_c ?_|refine z_d ?_|refine z_e ?_|refine z_f ?_|refine z_g ?_|refine z_h ?_|refine z_i ?_|refine z_j ?_|refine z_k ?_|refine z_l ?_|refine z_m (by omega) ?_|refine z_n (by omega) ?_|refine z_o (by omega) ?_|refine z_p (by omega) ?_|refine z_q (by omega) ?_|refine z_r (by omega) ?_|refine z_s (by omega) ?_|refine z_t (by omega) ?_|refine z_u (by omega) ?_|refine z_v (by omega) ?_|refine z_w (by omega) ?_|refine z_x (by omega) ?_|refine z_y (by omega) ?_|refine z_z (by omega) ?_|refine z_A ?_|refine z_B ?_|refine z_C ?_|refine z_D ?_|refine z_E ?_|refine z_F ?_|refine z_G ?_|refine z_H ?_|refine z_I ?_)
        refine hJ1 _ _ ⟨_, rfl, ?_, hb1⟩
        rw [hform, formStep, hgd, hb, if_neg (by simp)]
        exact hov
      | true =>
        rw [hb] at hbell
        (repeat with_reducible first | refine ld one4 hbell ?_|refine z_a ?_|refine z_b ?_|refine z_c ?_|refine z_d ?_|refine z_e ?_|refine z_f ?_|refine z_g ?_|refine z_h ?_|refine z_i ?_|refine z_j ?_|refine z_k ?_|refine z_l ?_|refine z_m (by omega) ?_|refine z_n (by omega) ?_|refine z_o (by omega) ?_|refine z_p (by omega) ?_|refine z_q (by omega) ?_|refine z_r (by omega) ?_|refine z_s (by omega) ?_|refine z_t (by omega) ?_|refine z_u (by omega) ?_|refine z_v (by omega) ?_|refine z_w (by omega) ?_|refine z_x (by omega) ?_|refine z_y (by omega) ?_|refine z_z (by omega) ?_|refine z_A ?_|refine z_B ?_|refine z_C ?_|refine z_D ?_|refine z_E ?_|refine z_F ?_|refine z_G ?_|refine z_H ?_|refine z_I ?_)
        refine JoinP.cut (fun xs w' => xs = [tS (hiP at_ k)] ∧ w1 = w') (fun J2 hJ2 => ?_) (fun xs w' hI => ?_)
        · refine addS (by omega) ?_
          refine ln und60 ?_
          refine bi_lss_c (fun h1 => ?_) (fun h1 => ?_)
          · have hk1 : k + 1 < at_.length := by omega
            obtain ⟨a', ha', hcell'⟩ := (hv.kept hb1).at (k + 1) hk1
            cases ha'
            (repeat with_reducible first | refine addS (show k ≤ 1000000 by omega) ?_| refine ixN und60 sz9 (k + 1) hk1 ?_| refine ld one9 hcell' ?_|refine z_a ?_|refine z_b ?_|refine z_c ?_|refine z_d ?_|refine z_e ?_|refine z_f ?_|refine z_g ?_|refine z_h ?_|refine z_i ?_|refine z_j ?_|refine z_k ?_|refine z_l ?_|refine z_m (by omega) ?_|refine z_n (by omega) ?_|refine z_o (by omega) ?_|refine z_p (by omega) ?_|refine z_q (by omega) ?_|refine z_r (by omega) ?_|refine z_s (by omega) ?_|refine z_t (by omega) ?_|refine z_u (by omega) ?_|refine z_v (by omega) ?_|refine z_w (by omega) ?_|refine z_x (by omega) ?_|refine z_y (by omega) ?_|refine z_z (by omega) ?_|refine z_A ?_|refine z_B ?_|refine z_C ?_|refine z_D ?_|refine z_E ?_|refine z_F ?_|refine z_G ?_|refine z_H ?_|refine z_I ?_)
            exact hJ2 _ _ ⟨by rw [hiP, dif_pos hk1], rfl⟩
          · (repeat with_reducible first|refine z_a ?_|refine z_b ?_|refine z_c ?_|refine z_d ?_|refine z_e ?_|refine z_f ?_|refine z_g ?_|refine z_h ?_|refine z_i ?_|refine z_j ?_|refine z_k ?_|refine z_l ?_|refine z_m (by omega) ?_|refine z_n (by omega) ?_|refine z_o (by omega) ?_|refine z_p (by omega) ?_|refine z_q (by omega) ?_|refine z_r (by omega) ?_|refine z_s (by omega) ?_|refine z_t (by omega) ?_|refine z_u (by omega) ?_|refine z_v (by omega) ?_|refine z_w (by omega) ?_|refine z_x (by omega) ?_|refine z_y (by omega) ?_|refine z_z (by omega) ?_|refine z_A ?_|refine z_B ?_|refine z_C ?_|refine z_D ?_|refine z_E ?_|refine z_F ?_|refine z_G ?_|refine z_H ?_|refine z_I ?_)
            exact hJ2 _ _ ⟨by rw [hiP, dif_neg (by omega)]; rfl, rfl⟩
        · obtain ⟨rfl, rfl⟩ := hI
          dsimp only [List.headD_cons, List.tail_cons]
          have hnew : (¬ (0 < k ∧ is.getD (k - 1) false = true)) → formP at_ is (k + 1) = formP at_ is k ++ [(at_[k], hiP at_ k)] := fun e => by
            rw [hform, formStep, if_pos (by rw [hgd, hb]), if_neg e, getD_at hk']
          refine bi_gtr_c (fun h1 => ?_) (fun h1 => ?_)
          · obtain ⟨j, rfl⟩ : ∃ j, k = j + 1 := ⟨k - 1, by omega⟩
            have hji : j < is.length := by omega
            obtain ⟨b', hb', hbell'⟩ := (hu.kept hb1).at j hji
            cases hb'
            (repeat with_reducible first | refine subS (show j ≤ 1000000 by omega) ?_| refine ixN und62 sz4 j hji ?_|refine z_a ?_|refine z_b ?_|refine z_c ?_|refine z_d ?_|refine z_e ?_|refine z_f ?_|refine z_g ?_|refine z_h ?_|refine z_i ?_|refine z_j ?_|refine z_k ?_|refine z_l ?_|refine z_m (by omega) ?_|refine z_n (by omega) ?_|refine z_o (by omega) ?_|refine z_p (by omega) ?_|refine z_q (by omega) ?_|refine z_r (by omega) ?_|refine z_s (by omega) ?_|refine z_t (by omega) ?_|refine z_u (by omega) ?_|refine z_v (by omega) ?_|refine z_w (by omega) ?_|refine z_x (by omega) ?_|refine z_y (by omega) ?_|refine z_z (by omega) ?_|refine z_A ?_|refine z_B ?_|refine z_C ?_|refine z_D ?_|refine z_E ?_|refine z_F ?_|refine z_G ?_|refine z_H ?_|refine z_I ?_)
            have hgj := getD_at hji false
            cases hbj : is[j] with
            | true =>
              obtain ⟨ys, lo, he, _⟩ := hspec.last (by omega) (by rw [Nat.add_sub_cancel, hgj, hbj])
              have hset : formP at_ is (j + 1 + 1) = ys ++ [(lo, hiP at_ (j + 1))] := by
                rw [hform, formStep, if_pos (by rw [hgd, hb]), if_pos ⟨by omega, by rw [Nat.add_sub_cancel, hgj, hbj]⟩, he]
                simp
              rw [he] at hov hfl
              rw [List.length_append, List.length_cons, List.length_nil] at hfl
              obtain ⟨g, c3, rfl, _, _, _, _, _⟩ := hov.last
              rw [hbj] at hbell'
              (repeat with_reducible first | refine ld one4 hbell' ?_|refine z_a ?_|refine z_b ?_|refine z_c ?_|refine z_d ?_|refine z_e ?_|refine z_f ?_|refine z_g ?_|refine z_h ?_|refine z_i ?_|refine z_j ?_|refine z_k ?_|refine z_l ?_|refine z_m (by omega) ?_|refine z_n (by omega) ?_|refine z_o (by omega) ?_|refine z_p (by omega) ?_|refine z_q (by omega) ?_|refine z_r (by omega) ?_|refine z_s (by omega) ?_|refine z_t (by omega) ?_|refine z_u (by omega) ?_|refine z_v (by omega) ?_|refine z_w (by omega) ?_|refine z_x (by omega) ?_|refine z_y (by omega) ?_|refine z_z (by omega) ?_|refine z_A ?_|refine z_B ?_|refine z_C ?_|refine z_D ?_|refine z_E ?_|refine z_F ?_|refine z_G ?_|refine z_H ?_|refine z_I ?_)
              refine ln und26 ?_
              (repeat with_reducible first | refine subS (show ys.length ≤ 1000000 by omega) ?_| refine ixG und26 sz23 ys.length (Nat.lt_succ_self _) ?_| refine fdG g1 (by decide) ?_|refine z_a ?_|refine z_b ?_|refine z_c ?_|refine z_d ?_|refine z_e ?_|refine z_f ?_|refine z_g ?_|refine z_h ?_|refine z_i ?_|refine z_j ?_|refine z_k ?_|refine z_l ?_|refine z_m (by omega) ?_|refine z_n (by omega) ?_|refine z_o (by omega) ?_|refine z_p (by omega) ?_|refine z_q (by omega) ?_|refine z_r (by omega) ?_|refine z_s (by omega) ?_|refine z_t (by omega) ?_|refine z_u (by omega) ?_|refine z_v (by omega) ?_|refine z_w (by omega) ?_|refine z_x (by omega) ?_|refine z_y (by omega) ?_|refine z_z (by omega) ?_|refine z_A ?_|refine z_B ?_|refine z_C ?_|refine z_D ?_|refine z_E ?_|refine z_F ?_|refine z_G ?_|refine z_H ?_|refine z_I ?_)
              obtain ⟨g', c', he', _, c1', _, _, hf'⟩ := hov.last
              cases he'
              refine st sz9 (by rfl) (by rw [c1']; rfl) hf' ?_
              obtain ⟨hset1, hset2⟩ := hov.setHi hs1 (hiP at_ (j + 1))
              exact hJ1 _ _ ⟨_, rfl, by rw [hset]; exact hset1, hb1.trans hset2⟩
            | false =>
              have hnew' := hnew (by rw [Nat.add_sub_cancel, hgj, hbj]; simp)
              rw [hbj] at hbell'
              (repeat with_reducible first | refine ld one4 hbell' ?_| refine ixN und60 sz9 (j + 1) hk' ?_| refine ld one9 hcell ?_|refine z_a ?_|refine z_b ?_|refine z_c ?_|refine z_d ?_|refine z_e ?_|refine z_f ?_|refine z_g ?_|refine z_h ?_|refine z_i ?_|refine z_j ?_|refine z_k ?_|refine z_l ?_|refine z_m (by omega) ?_|refine z_n (by omega) ?_|refine z_o (by omega) ?_|refine z_p (by omega) ?_|refine z_q (by omega) ?_|refine z_r (by omega) ?_|refine z_s (by omega) ?_|refine z_t (by omega) ?_|refine z_u (by omega) ?_|refine z_v (by omega) ?_|refine z_w (by omega) ?_|refine z_x (by omega) ?_|refine z_y (by omega) ?_|refine z_z (by omega) ?_|refine z_A ?_|refine z_B ?_|refine z_C ?_|refine z_D ?_|refine z_E ?_|refine z_F ?_|refine z_G ?_|refine z_H ?_|refine z_I ?_)
              refine bd (cells := rgA (at_[j + 1], hiP at_ (j + 1))) (by kernel_rfl) ?_
              refine hov.push hs1 (by omega) (at_[j + 1], hiP at_ (j + 1)) ?_
              intro v3 w3 ho3 hT3 hb3
              exact hJ1 _ _ ⟨_, rfl, by rw [hnew']; exact ho3, hb1.trans hb3⟩
          · have hnew' := hnew (fun e => by omega)
            (repeat with_reducible first | refine ixN und60 sz9 k hk' ?_| refine ld one9 hcell ?_|refine z_a ?_|refine z_b ?_|refine z_c ?_|refine z_d ?_|refine z_e ?_|refine z_f ?_|refine z_g ?_|refine z_h ?_|refine z_i ?_|refine z_j ?_|refine z_k ?_|refine z_l ?_|refine z_m (by omega) ?_|refine z_n (by omega) ?_|refine z_o (by omega) ?_|refine z_p (by omega) ?_|refine z_q (by omega) ?_|refine z_r (by omega) ?_|refine z_s (by omega) ?_|refine z_t (by omega) ?_|refine z_u (by omega) ?_|refine z_v (by omega) ?_|refine z_w (by omega) ?_|refine z_x (by omega) ?_|refine z_y (by omega) ?_|refine z_z (by omega) ?_|refine z_A ?_|refine z_B ?_|refine z_C ?_|refine z_D ?_|refine z_E ?_|refine z_F ?_|refine z_G ?_|refine z_H ?_|refine z_I ?_)
            refine bd (cells := rgA (at_[k], hiP at_ k)) (by kernel_rfl) ?_
            refine hov.push hs1 (by omega) (at_[k], hiP at_ k) ?_
            intro v3 w3 ho3 hT3 hb3
            exact hJ1 _ _ ⟨_, rfl, by rw [hnew']; exact ho3, hb1.trans hb3⟩
    · obtain ⟨ov', rfl, ho', hb'⟩ := hI
      dsimp only [List.headD_cons, List.tail_cons]
      (repeat with_reducible first|refine z_a ?_|refine z_b ?_|refine z_c ?_|refine z_d ?_|refine z_e ?_|refine z_f ?_|refine z_g ?_|refine z_h ?_|refine z_i ?_|refine z_j ?_|refine z_k ?_|refine z_l ?_|refine z_m (by omega) ?_|refine z_n (by omega) ?_|refine z_o (by omega) ?_|refine z_p (by omega) ?_|refine z_q (by omega) ?_|refine z_r (by omega) ?_|refine z_s (by omega) ?_|refine z_t (by omega) ?_|refine z_u (by omega) ?_|refine z_v (by omega) ?_|refine z_w (by omega) ?_|refine z_x (by omega) ?_|refine z_y (by omega) ?_|refine z_z (by omega) ?_|refine z_A ?_|refine z_B ?_|refine z_C ?_|refine z_D ?_|refine z_E ?_|refine z_F ?_|refine z_G ?_|refine z_H ?_|refine z_I ?_)
      exact hJ _ _ _ ⟨k + 1, by omega, by simp, ho', hb'⟩ (by simp [intOf]; omega)
  · have : k = at_.length := by omega
    subst this
    (repeat with_reducible first|refine z_a ?_|refine z_b ?_|refine z_c ?_|refine z_d ?_|refine z_e ?_|refine z_f ?_|refine z_g ?_|refine z_h ?_|refine z_i ?_|refine z_j ?_|refine z_k ?_|refine z_l ?_|refine z_m (by omega) ?_|refine z_n (by omega) ?_|refine z_o (by omega) ?_|refine z_p (by omega) ?_|refine z_q (by omega) ?_|refine z_r (by omega) ?_|refine z_s (by omega) ?_|refine z_t (by omega) ?_|refine z_u (by omega) ?_|refine z_v (by omega) ?_|refine z_w (by omega) ?_|refine z_x (by omega) ?_|refine z_y (by omega) ?_|refine z_z (by omega) ?_|refine z_A ?_|refine z_B ?_|refine z_C ?_|refine z_D ?_|refine z_E ?_|refine z_F ?_|refine z_G ?_|refine z_H ?_|refine z_I ?_)
    exact ⟨hov, hb1⟩
end Go.Proofs.Ytcfncjejpjjhdaa.E
namespace Go.Proofs.Ytcfncjejpjjhdaa.E
open Go Go.RowKit
set_option linter.unusedSimpArgs false
set_option linter.unusedVariables false

def boF (b : Bool) : List Value := [.bool b]
theorem boF_len (b : Bool) : (boF b).length = 1 := rfl
theorem boF_one (b : Bool) : ∀ u ∈ boF b, u.oneCell' = true := by
  intro u hu
  simp only [boF, List.mem_cons, List.not_mem_nil, or_false] at hu
  subst hu; rfl
def OwnZ (B : Nat) (w : World) (v : Value) (l : List Bool) : Prop := w.ownsRow 0 4 1 v l.length (l.flatMap boF) ∧ Fresh B v
theorem OwnZ.rd {B : Nat} {w : World} {v : Value} {l : List Bool} (h : OwnZ B w v l) : BoR w [v] l := (OwnR.of_own h.1).rd boF_len fun _ _ => rfl
theorem OwnZ.kept {B : Nat} {w w' : World} {v : Value} {l : List Bool} (h : OwnZ B w v l) (hb : Below w.heap.size w w') : OwnZ B w' v l := ⟨ownsRow_turns h.1 (Turns.of_below (F := fun _ => False) hb) (fun _ _ h => h), h.2⟩
theorem OwnZ.nil (B : Nat) (w : World) : OwnZ B w (.slice none 0 0) [] := ⟨⟨rfl, .inl ⟨rfl, rfl⟩⟩, Fresh.nil B⟩
theorem OwnZ.push {K : Value → World → Prop} {cs : Array Bool} {B : Nat} {w : World} {v : Value} {l : List Bool} (h : OwnZ B w v l) (hB : B ≤ w.heap.size) (hl : l.length ≤ 100000) (b : Bool)
    (k : ∀ v' w', OwnZ B w' v' (l ++ [b]) → Below B w w' → K v' w') :
    LiftP Try.prog (Instr.buildSlice 100 1 #[(0, .bool b)]) (fun u w => NextP Try.prog (builtin .append #[100, 100] 100 cs #[v, u]) K w) w := by
  refine apOneV (us := boF b) und62 inf4 (by rfl) (by decide) h.1 (boF_len _) (boF_one _) (by omega) (by omega) (by kernel_rfl) ?_
  intro v2 w2 ho2 hbl2 hT2
  have e : (l ++ [b]).flatMap boF = l.flatMap boF ++ boF b := by simp
  exact k v2 w2 ⟨by rw [e, List.length_append]; exact ho2, h.2.one hB hbl2⟩ (hT2.fresh h.2 hB)
theorem OwnZ.pushA {K : (World → Prop) → Value → World → Prop} {S : World → Prop} {cs : Array Bool} {B : Nat} {w : World} {v : Value} {l : List Bool} (h : OwnZ B w v l) (hB : B ≤ w.heap.size) (hl : l.length ≤ 100000) (b : Bool)
    (hS : ∀ w', Below B w w' → S w') (k : ∀ v' w', OwnZ B w' v' (l ++ [b]) → Below B w w' → K S v' w') :
    ActP S (fun K w => LiftP Try.prog (Instr.buildSlice 100 1 #[(0, .bool b)]) K w) (fun S u w => ActP S (fun K w => NextP Try.prog (builtin .append #[100, 100] 100 cs #[v, u]) K w) K w) w := by
  refine act ?_
  refine lift (v := .slice (some ⟨w.heap.size, 0, none⟩) 1 1) (w' := w.alloc (.cells #[.bool b] 4)) (by kernel_rfl) ?_
  have hN : Blk (w.alloc (.cells #[.bool b] 4)) w.heap.size 4 #[.bool b] := Blk.new w 4 _
  have ha := (Below.refl w.heap.size w).alloc (Nat.le_refl _) (.cells #[.bool b] 4)
  have h1 := h.kept ha
  have hs := ha.size
  generalize w.alloc (.cells #[.bool b] 4) = w1 at *
  refine ⟨S, hS _ (ha.mono hB), fun _ h => h, ?_⟩
  refine act ?_
  refine apGb und62 inf4 (by rfl) (by decide) h1.1 (a := ⟨w.heap.size, 0, none⟩) (m := 1) (c := 1) (news := boF b) (by rfl) (fun j u hu => by
    rw [add0, Nat.zero_add, hN.cell j]; simpa [boF] using hu) (boF_one b) (by omega) (by omega) ?_
  intro v' w' ho hbl hT
  have hb : Below B w w' := (ha.mono hB).trans (hT.fresh h.2 (by omega))
  have e : (l ++ [b]).flatMap boF = l.flatMap boF ++ boF b := by simp
  refine ⟨S, hS _ hb, fun _ h => h, k v' w' ⟨by rw [e, List.length_append]; exact ho, h.2.one (show B ≤ w1.heap.size by omega) (hbl.imp id fun h => ⟨_, h, Nat.le_refl _⟩)⟩ hb⟩
/-- The form of what is so at the places. -/
theorem form_map {at_ : List Txt} (h : Asc at_) (h0 : ∃ t, at_ = [] :: t) (p : Txt → Bool) (hP : ∀ i (hi : i < at_.length) s, cellP at_ i s → (p s = p at_[i])) :
    Canon (formP at_ (at_.map p) at_.length) ∧ ∀ s, inL (formP at_ (at_.map p) at_.length) s ↔ p s = true :=
  form_of h h0 (fun s => p s = true) (at_.map p) (fun i hi => by rw [getD_at (by simpa using hi), List.getElem_map]) (fun i hi s hc => by rw [hP i hi s hc])
theorem map_succ {α β : Type} (f : α → β) (l : List α) (k : Nat) (hk : k < l.length) : (l.take (k + 1)).map f = (l.take k).map f ++ [f l[k]] := by
  rw [List.take_succ_eq_append_getElem hk, List.map_append]; rfl
theorem least21 (v : Value) (l : List Rg) (hl : l.length ≤ 1000) (w : World) (hv : RgR w [v] l) :
    CallP Try.prog 36 #[v] (fun r w' => ∃ out, IsLeast l out ∧ OwnA w.heap.size w' r out ∧ Below w.heap.size w w') w := by
  refine ⟨S36.calls _ _ _ ?_⟩
  unfold S36
  refine (places44 v l hl w hv).mono ?_
  rintro v1 w1 ⟨ho1, hb1⟩
  have hrow := ho1.rd
  have hlen := places_len l
  have hasc := places_asc l
  have hh0 := places_head l
  have hends := places_ends l
  have hP := fun (p : Txt → Bool) hP => form_map hasc hh0 p hP
  generalize placesP l = at_ at *
  obtain ⟨A, c, rfl, hc, hm⟩ := hrow.slice
  have hs1 := hb1.size
  refine LoopP.inv2 (fun ov iv w' => ∃ k : Nat, k ≤ at_.length ∧ iv = .int .i64 k ∧ OwnZ w1.heap.size w' ov ((at_.take k).map fun t => decide (inL l t)) ∧ Below w1.heap.size w1 w') (fun _ iv _ => at_.length - (intOf iv).toNat)
    ⟨0, Nat.zero_le _, rfl, OwnZ.nil _ _, Below.refl _ _⟩ ?_
  rintro ov _ w2 ⟨k, hk, rfl, hov, hb2⟩ J hJ
  dsimp only [List.headD_cons, List.tail_cons]
  have hs2 := hb2.size
  refine ln und60 ?_
  refine bi_lss_c (fun h => ?_) (fun h => ?_)
  · have hk' : k < at_.length := by omega
    obtain ⟨a, rfl, hcell⟩ := (hrow.kept hb2).at k hk'
    (repeat with_reducible first | refine ixN und60 sz9 k hk' ?_| refine ld one9 hcell ?_|refine z_a ?_|refine z_b ?_|refine z_c ?_|refine z_d ?_|refine z_e ?_|refine z_f ?_|refine z_g ?_|refine z_h ?_|refine z_i ?_|refine z_j ?_|refine z_k ?_|refine z_l ?_|refine z_m (by omega) ?_|refine z_n (by omega) ?_|refine z_o (by omega) ?_|refine z_p (by omega) ?_|refine z_q (by omega) ?_|refine z_r (by omega) ?_|refine z_s (by omega) ?_|refine z_t (by omega) ?_|refine z_u (by omega) ?_|refine z_v (by omega) ?_|refine z_w (by omega) ?_|refine z_x (by omega) ?_|refine z_y (by omega) ?_|refine z_z (by omega) ?_|refine z_A ?_|refine z_B ?_|refine z_C ?_|refine z_D ?_|refine z_E ?_|refine z_F ?_|refine z_G ?_|refine z_H ?_|refine z_I ?_)
    refine (in51 v l at_[k] w2 (hv.kept (below_then hb1 hb2))).mono ?_
    rintro _ w3 ⟨rfl, h3⟩
    have hb3 := below_then hb2 h3
    refine (hov.kept h3).push hb3.size (by rw [List.length_map, List.length_take]; omega) _ ?_
    intro v4 w4 ho4 hb4
    (repeat with_reducible first|refine z_a ?_|refine z_b ?_|refine z_c ?_|refine z_d ?_|refine z_e ?_|refine z_f ?_|refine z_g ?_|refine z_h ?_|refine z_i ?_|refine z_j ?_|refine z_k ?_|refine z_l ?_|refine z_m (by omega) ?_|refine z_n (by omega) ?_|refine z_o (by omega) ?_|refine z_p (by omega) ?_|refine z_q (by omega) ?_|refine z_r (by omega) ?_|refine z_s (by omega) ?_|refine z_t (by omega) ?_|refine z_u (by omega) ?_|refine z_v (by omega) ?_|refine z_w (by omega) ?_|refine z_x (by omega) ?_|refine z_y (by omega) ?_|refine z_z (by omega) ?_|refine z_A ?_|refine z_B ?_|refine z_C ?_|refine z_D ?_|refine z_E ?_|refine z_F ?_|refine z_G ?_|refine z_H ?_|refine z_I ?_)
    refine hJ _ _ _ ⟨k + 1, by omega, by simp, by rw [map_succ _ _ _ hk']; exact ho4, hb3.trans hb4⟩ (by simp [intOf]; omega)
  · have : k = at_.length := by omega
    subst this
    rw [List.take_length] at hov
    (repeat with_reducible first|refine z_a ?_|refine z_b ?_|refine z_c ?_|refine z_d ?_|refine z_e ?_|refine z_f ?_|refine z_g ?_|refine z_h ?_|refine z_i ?_|refine z_j ?_|refine z_k ?_|refine z_l ?_|refine z_m (by omega) ?_|refine z_n (by omega) ?_|refine z_o (by omega) ?_|refine z_p (by omega) ?_|refine z_q (by omega) ?_|refine z_r (by omega) ?_|refine z_s (by omega) ?_|refine z_t (by omega) ?_|refine z_u (by omega) ?_|refine z_v (by omega) ?_|refine z_w (by omega) ?_|refine z_x (by omega) ?_|refine z_y (by omega) ?_|refine z_z (by omega) ?_|refine z_A ?_|refine z_B ?_|refine z_C ?_|refine z_D ?_|refine z_E ?_|refine z_F ?_|refine z_G ?_|refine z_H ?_|refine z_I ?_)
    refine (form45 _ _ at_ _ hasc (by rw [List.length_map]) (by omega) w2 (hrow.kept hb2) hov.rd).mono ?_
    rintro v5 w5 ⟨ho5, h5⟩
    have hb12 := below_then hb1 hb2
    obtain ⟨q1, q2⟩ := hP (fun t => decide (inL l t)) (fun i hi s hcell => by rw [decide_eq_decide]; exact in_const hasc hends hi hcell)
    exact ⟨_, ⟨q1, fun s => (q2 s).trans (by rw [decide_eq_true_eq])⟩, ho5.mono hb12.size, below_then hb12 h5⟩
/-- A row and one more, of the call's own. -/
theorem allOf {K : Value → World → Prop} {cs cs' : Array Bool} (B : Nat) {v : Value} {l : List Rg} {w : World} {r : Rg} {g : Nat} (hB : B ≤ w.heap.size) (hl : l.length ≤ 1000) (hv : RgR w [v] l) (hR : Blk w g 32 (rgA r))
    (hgB : g < B) (k : ∀ v' w', OwnA B w' v' (l ++ [r]) → Below B w w' → K v' w') :
    NextP Try.prog (builtin .append #[22, 22] 22 cs #[(Value.slice none 0 0), v]) (fun v11 w => LiftP Try.prog (Instr.loadAt 32 (.pointer (some ⟨g, 0, none⟩))) (fun v13 w => LiftP Try.prog (Instr.buildSlice 22 1 #[(0, v13)]) (fun v14 w =>
      NextP Try.prog (builtin .append #[22, 22] 22 cs' #[v11, v14]) K w) w) w) w := by
  refine apRm B und26 inf23 (by rfl) (by decide) (OwnA.nil B w).1 (Fresh.nil B) hB rgF_len (fun x _ => rgF_one x) hv (by simp; omega) (by simp; omega) ?_
  intro v1 w1 ho1 hf1 hb1
  have hR1 : Blk w1 g 32 (rgA r) := hR.below hb1 hgB
  have hs1 := hb1.size
  refine ldA agg23 hR1 (by rw [sz23]; rfl) ?_
  have ho : OwnA B w1 v1 l := ⟨by have := ho1; simpa using this, hf1⟩
  refine ho.push (by omega) (by omega) r ?_
  intro v2 w2 ho2 hT2 hb2
  exact k v2 w2 ho2 (hb1.trans hb2)
end Go.Proofs.Ytcfncjejpjjhdaa.E
namespace Go.Proofs.Ytcfncjejpjjhdaa.E
open Go Go.RowKit
set_option linter.unusedSimpArgs false
set_option linter.unusedVariables false

theorem ends_l {l : List Rg} {r : Rg} : (∀ x ∈ l, x.1 ∈ placesP (l ++ [r]) ∧ x.2 ∈ placesP (l ++ [r])) ∧ r.1 ∈ placesP (l ++ [r]) ∧ r.2 ∈ placesP (l ++ [r]) := by
  have h := places_ends (l ++ [r])
  exact ⟨fun x hx => h x (by simp [hx]), h r (by simp)⟩
theorem minus22 (v : Value) (l : List Rg) (r : Rg) (hl : l.length ≤ 500) (w : World) (hv : RgR w [v] l) :
    CallP Try.prog 59 #[v, rgV r] (fun u w' => ∃ out, IsMinus l r out ∧ OwnA w.heap.size w' u out ∧ Below w.heap.size w w') w := by
  refine ⟨S59.calls _ _ _ _ ?_⟩
  unfold S59
  refine bxB ?_
  intro gr w1 hgr hR1 hb1
  have hs1 := hb1.size
  refine allOf (w1.heap.size) (Nat.le_refl _) (by omega) (hv.kept hb1) hR1 hR1.lt ?_
  intro v2 w2 ho2 hb2
  have hb2' := below_then hb1 hb2
  refine (places44 v2 (l ++ [r]) (by simp; omega) w2 ho2.rd).mono ?_
  rintro v3 w3 ⟨ho3, h3⟩
  have hb3 := below_then hb2' h3
  have hR3 : Blk w3 gr 32 (rgA r) := (hR1.below' hb2).below' h3
  have hv3 := hv.kept hb3
  have hs3 := hb3.size
  have hrow := ho3.rd
  have hlen := places_len (l ++ [r])
  rw [List.length_append] at hlen
  simp only [List.length_cons, List.length_nil] at hlen
  have hasc := places_asc (l ++ [r])
  have hh0 := places_head (l ++ [r])
  obtain ⟨hends, hr1, hr2⟩ := ends_l (l := l) (r := r)
  have hP := fun (p : Txt → Bool) hP => form_map hasc hh0 p hP
  generalize placesP (l ++ [r]) = at_ at *
  obtain ⟨A, c, rfl, hc, hm⟩ := hrow.slice
  refine LoopP.inv2 (fun ov iv w' => ∃ k : Nat, k ≤ at_.length ∧ iv = .int .i64 k ∧ OwnZ w3.heap.size w' ov ((at_.take k).map fun t => decide (inL l t ∧ ¬ hasR r t)) ∧ Below w3.heap.size w3 w') (fun _ iv _ => at_.length - (intOf iv).toNat)
    ⟨0, Nat.zero_le _, rfl, OwnZ.nil _ _, Below.refl _ _⟩ ?_
  rintro ov _ w4 ⟨k, hk, rfl, hov, hb4⟩ J hJ
  dsimp only [List.headD_cons, List.tail_cons]
  refine ln und60 ?_
  refine bi_lss_c (fun h => ?_) (fun h => ?_)
  · have hk' : k < at_.length := by omega
    obtain ⟨a, rfl, hcell⟩ := hrow.at k hk'
    have hc2 : ∀ w', Below w3.heap.size w3 w' → w'.cell? (a.add (k * 1)) = some (tS at_[k]) := fun w' hw => by rw [hw.cell (World.block_lt_of_cell? _ _ hcell), hcell]
    have hdr : Below w4.heap.size w4 w4.drew := (Below.refl _ _).drew
    have hb5 := below_then hb4 hdr
    have hov5 := hov.kept hdr
    (repeat with_reducible first|refine z_a ?_|refine z_b ?_|refine z_c ?_|refine z_d ?_|refine z_e ?_|refine z_f ?_|refine z_g ?_|refine z_h ?_|refine z_i ?_|refine z_j ?_|refine z_k ?_|refine z_l ?_|refine z_m (by omega) ?_|refine z_n (by omega) ?_|refine z_o (by omega) ?_|refine z_p (by omega) ?_|refine z_q (by omega) ?_|refine z_r (by omega) ?_|refine z_s (by omega) ?_|refine z_t (by omega) ?_|refine z_u (by omega) ?_|refine z_v (by omega) ?_|refine z_w (by omega) ?_|refine z_x (by omega) ?_|refine z_y (by omega) ?_|refine z_z (by omega) ?_|refine z_A ?_|refine z_B ?_|refine z_C ?_|refine z_D ?_|refine z_E ?_|refine z_F ?_|refine z_G ?_|refine z_H ?_|refine z_I ?_)
    refine draw (Below w3.heap.size w3) hb5 ?_
    generalize w4.drew = w5 at *
    refine yixA und60 sz9 k hk' ?_
    refine yl1 one9 hc2 ?_
    refine act ?_
    refine (in51 v l at_[k] w5 (hv3.kept hb5)).mono ?_
    rintro _ w6 ⟨rfl, h6⟩
    have hb6 := below_then hb5 h6
    have hov6 := hov5.kept h6
    refine ⟨_, hb6, fun _ h => h, ?_⟩
    have last : ∀ w7 (b : Bool), b = decide (inL l at_[k] ∧ ¬ hasR r at_[k]) → OwnZ w3.heap.size w7 ov ((at_.take k).map fun t => decide (inL l t ∧ ¬ hasR r t)) → Below w3.heap.size w3 w7 →
        ActP (Below w3.heap.size w3) (fun K w => LiftP Try.prog (Instr.buildSlice 100 1 #[(0, .bool b)]) K w) (fun S v40 w =>
        ActP S (fun K w => NextP Try.prog (builtin Go.Builtin.append #[100, 100] 100 #[false, false] #[ov, v40]) K w) (fun S v41 w =>
        LiftP Try.prog (binS Go.BinOp.add 3 (Go.Operand.tmp 22) (Go.Operand.const (Go.Value.int Go.IntKind.i64 1)) (.int .i64 (k : Int)) (Go.Value.int Go.IntKind.i64 1)) (fun v23 w =>
        J [v41, v23] w) w) w) w7 := by
      intro w7 b hb hov7 hb7
      refine hov7.pushA hb7.size (by rw [List.length_map, List.length_take]; omega) b (fun w' hw => hb7.trans hw) ?_
      intro v8 w8 ho8 hb8
      refine addS (show k ≤ 1000000 by omega) ?_
      refine hJ _ _ _ ⟨k + 1, by omega, rfl, by rw [map_succ _ _ _ hk', ← hb]; exact ho8, hb7.trans hb8⟩ (by simp [intOf]; omega)
    by_cases hin : inL l at_[k]
    · rw [decide_eq_true hin]
      (repeat with_reducible first|refine z_J ?_|refine z_a ?_|refine z_b ?_|refine z_c ?_|refine z_d ?_|refine z_e ?_|refine z_f ?_|refine z_g ?_|refine z_h ?_|refine z_i ?_|refine z_j ?_|refine z_k ?_|refine z_l ?_|refine z_K (by omega) ?_|refine z_L (by omega) ?_|refine z_M (by omega) ?_|refine z_N (by omega) ?_|refine z_O (by omega) ?_|refine z_P (by omega) ?_|refine z_Q (by omega) ?_|refine z_R (by omega) ?_|refine z_S (by omega) ?_|refine z_T (by omega) ?_|refine z_U (by omega) ?_|refine z_V (by omega) ?_|refine z_W (by omega) ?_|refine z_X (by omega) ?_|refine z_Y ?_|refine z_Z ?_|refine z_a1 ?_|refine z_b1 ?_|refine z_c1 ?_|refine z_d1 ?_|refine z_e1 ?_|refine z_f1 ?_|refine z_g1 ?_)
      refine yldA agg23 (fun w' hw => hR3.below' hw) (by rw [sz23]; rfl) ?_
      (repeat with_reducible first|refine z_J ?_|refine z_a ?_|refine z_b ?_|refine z_c ?_|refine z_d ?_|refine z_e ?_|refine z_f ?_|refine z_g ?_|refine z_h ?_|refine z_i ?_|refine z_j ?_|refine z_k ?_|refine z_l ?_|refine z_K (by omega) ?_|refine z_L (by omega) ?_|refine z_M (by omega) ?_|refine z_N (by omega) ?_|refine z_O (by omega) ?_|refine z_P (by omega) ?_|refine z_Q (by omega) ?_|refine z_R (by omega) ?_|refine z_S (by omega) ?_|refine z_T (by omega) ?_|refine z_U (by omega) ?_|refine z_V (by omega) ?_|refine z_W (by omega) ?_|refine z_X (by omega) ?_|refine z_Y ?_|refine z_Z ?_|refine z_a1 ?_|refine z_b1 ?_|refine z_c1 ?_|refine z_d1 ?_|refine z_e1 ?_|refine z_f1 ?_|refine z_g1 ?_)
      refine yixA und60 sz9 k hk' ?_
      (repeat with_reducible first|refine z_J ?_|refine z_a ?_|refine z_b ?_|refine z_c ?_|refine z_d ?_|refine z_e ?_|refine z_f ?_|refine z_g ?_|refine z_h ?_|refine z_i ?_|refine z_j ?_|refine z_k ?_|refine z_l ?_|refine z_K (by omega) ?_|refine z_L (by omega) ?_|refine z_M (by omega) ?_|refine z_N (by omega) ?_|refine z_O (by omega) ?_|refine z_P (by omega) ?_|refine z_Q (by omega) ?_|refine z_R (by omega) ?_|refine z_S (by omega) ?_|refine z_T (by omega) ?_|refine z_U (by omega) ?_|refine z_V (by omega) ?_|refine z_W (by omega) ?_|refine z_X (by omega) ?_|refine z_Y ?_|refine z_Z ?_|refine z_a1 ?_|refine z_b1 ?_|refine z_c1 ?_|refine z_d1 ?_|refine z_e1 ?_|refine z_f1 ?_|refine z_g1 ?_)
      refine yl1 one9 hc2 ?_
      (repeat with_reducible first|refine z_J ?_|refine z_a ?_|refine z_b ?_|refine z_c ?_|refine z_d ?_|refine z_e ?_|refine z_f ?_|refine z_g ?_|refine z_h ?_|refine z_i ?_|refine z_j ?_|refine z_k ?_|refine z_l ?_|refine z_K (by omega) ?_|refine z_L (by omega) ?_|refine z_M (by omega) ?_|refine z_N (by omega) ?_|refine z_O (by omega) ?_|refine z_P (by omega) ?_|refine z_Q (by omega) ?_|refine z_R (by omega) ?_|refine z_S (by omega) ?_|refine z_T (by omega) ?_|refine z_U (by omega) ?_|refine z_V (by omega) ?_|refine z_W (by omega) ?_|refine z_X (by omega) ?_|refine z_Y ?_|refine z_Z ?_|refine z_a1 ?_|refine z_b1 ?_|refine z_c1 ?_|refine z_d1 ?_|refine z_e1 ?_|refine z_f1 ?_|refine z_g1 ?_)
      refine act ?_
      refine (has17 r at_[k] w6).mono ?_
      rintro _ w7 ⟨rfl, h7⟩
      have hb7 := below_then hb6 h7
      refine ⟨_, hb7, fun _ h => h, ?_⟩
      by_cases hh : hasR r at_[k]
      · rw [decide_eq_true hh]
        (repeat with_reducible first|refine z_J ?_|refine z_a ?_|refine z_b ?_|refine z_c ?_|refine z_d ?_|refine z_e ?_|refine z_f ?_|refine z_g ?_|refine z_h ?_|refine z_i ?_|refine z_j ?_|refine z_k ?_|refine z_l ?_|refine z_K (by omega) ?_|refine z_L (by omega) ?_|refine z_M (by omega) ?_|refine z_N (by omega) ?_|refine z_O (by omega) ?_|refine z_P (by omega) ?_|refine z_Q (by omega) ?_|refine z_R (by omega) ?_|refine z_S (by omega) ?_|refine z_T (by omega) ?_|refine z_U (by omega) ?_|refine z_V (by omega) ?_|refine z_W (by omega) ?_|refine z_X (by omega) ?_|refine z_Y ?_|refine z_Z ?_|refine z_a1 ?_|refine z_b1 ?_|refine z_c1 ?_|refine z_d1 ?_|refine z_e1 ?_|refine z_f1 ?_|refine z_g1 ?_)
        exact last w7 false (by rw [decide_eq_false (fun e => e.2 hh)]) (hov6.kept h7) hb7
      · rw [decide_eq_false hh]
        (repeat with_reducible first|refine z_J ?_|refine z_a ?_|refine z_b ?_|refine z_c ?_|refine z_d ?_|refine z_e ?_|refine z_f ?_|refine z_g ?_|refine z_h ?_|refine z_i ?_|refine z_j ?_|refine z_k ?_|refine z_l ?_|refine z_K (by omega) ?_|refine z_L (by omega) ?_|refine z_M (by omega) ?_|refine z_N (by omega) ?_|refine z_O (by omega) ?_|refine z_P (by omega) ?_|refine z_Q (by omega) ?_|refine z_R (by omega) ?_|refine z_S (by omega) ?_|refine z_T (by omega) ?_|refine z_U (by omega) ?_|refine z_V (by omega) ?_|refine z_W (by omega) ?_|refine z_X (by omega) ?_|refine z_Y ?_|refine z_Z ?_|refine z_a1 ?_|refine z_b1 ?_|refine z_c1 ?_|refine z_d1 ?_|refine z_e1 ?_|refine z_f1 ?_|refine z_g1 ?_)
        exact last w7 true (by rw [decide_eq_true ⟨hin, hh⟩]) (hov6.kept h7) hb7
    · rw [decide_eq_false hin]
      (repeat with_reducible first|refine z_J ?_|refine z_a ?_|refine z_b ?_|refine z_c ?_|refine z_d ?_|refine z_e ?_|refine z_f ?_|refine z_g ?_|refine z_h ?_|refine z_i ?_|refine z_j ?_|refine z_k ?_|refine z_l ?_|refine z_K (by omega) ?_|refine z_L (by omega) ?_|refine z_M (by omega) ?_|refine z_N (by omega) ?_|refine z_O (by omega) ?_|refine z_P (by omega) ?_|refine z_Q (by omega) ?_|refine z_R (by omega) ?_|refine z_S (by omega) ?_|refine z_T (by omega) ?_|refine z_U (by omega) ?_|refine z_V (by omega) ?_|refine z_W (by omega) ?_|refine z_X (by omega) ?_|refine z_Y ?_|refine z_Z ?_|refine z_a1 ?_|refine z_b1 ?_|refine z_c1 ?_|refine z_d1 ?_|refine z_e1 ?_|refine z_f1 ?_|refine z_g1 ?_)
      exact last w6 false (by rw [decide_eq_false (fun e => hin e.1)]) hov6 hb6
  · have : k = at_.length := by omega
    subst this
    rw [List.take_length] at hov
    (repeat with_reducible first|refine z_a ?_|refine z_b ?_|refine z_c ?_|refine z_d ?_|refine z_e ?_|refine z_f ?_|refine z_g ?_|refine z_h ?_|refine z_i ?_|refine z_j ?_|refine z_k ?_|refine z_l ?_|refine z_m (by omega) ?_|refine z_n (by omega) ?_|refine z_o (by omega) ?_|refine z_p (by omega) ?_|refine z_q (by omega) ?_|refine z_r (by omega) ?_|refine z_s (by omega) ?_|refine z_t (by omega) ?_|refine z_u (by omega) ?_|refine z_v (by omega) ?_|refine z_w (by omega) ?_|refine z_x (by omega) ?_|refine z_y (by omega) ?_|refine z_z (by omega) ?_|refine z_A ?_|refine z_B ?_|refine z_C ?_|refine z_D ?_|refine z_E ?_|refine z_F ?_|refine z_G ?_|refine z_H ?_|refine z_I ?_)
    refine (form45 _ _ at_ _ hasc (by rw [List.length_map]) (by omega) w4 (hrow.kept hb4) hov.rd).mono ?_
    rintro v5 w5 ⟨ho5, h5⟩
    have hb34 := below_then hb3 hb4
    obtain ⟨q1, q2⟩ := hP (fun t => decide (inL l t ∧ ¬ hasR r t)) (fun i hi s hcell => by rw [decide_eq_decide, in_const hasc hends hi hcell, has_const hasc hr1 hr2 hi hcell])
    exact ⟨_, ⟨q1, fun s => (q2 s).trans (by rw [decide_eq_true_eq])⟩, ho5.mono hb34.size, below_then hb34 h5⟩
end Go.Proofs.Ytcfncjejpjjhdaa.E
namespace Go.Proofs.Ytcfncjejpjjhdaa.E
open Go Go.RowKit
set_option linter.unusedSimpArgs false
set_option linter.unusedVariables false

end Go.Proofs.Ytcfncjejpjjhdaa.E
namespace Go.Proofs.Ytcfncjejpjjhdaa.E
open Go Go.RowKit
set_option linter.unusedSimpArgs false
set_option linter.unusedVariables false

abbrev RgT := ByteArray × ByteArray × Unit
abbrev rRgT : Rdr RgT := rCons 1 rS (rCons 1 rS rNil)
theorem opens_Rg : Opens Try.prog 32 rRgT := opens_struct Try.underlying32 (by kernel_rfl) (opensF_cons rfl (by kernel_rfl) (by decide) (opens_string und9) (opensF_cons rfl (by kernel_rfl) (by decide) (opens_string und9) opensF_nil))
def toRg (x : RgT) : Rg := (x.1.data.toList, x.2.1.data.toList)
theorem rgT_cells {w : World} {us : List Value} {x : RgT} (h : rRgT w us x) : us = rgF (toRg x) := by
  obtain ⟨r, rfl, _, h⟩ := rCons_S h
  obtain ⟨r, rfl, _, h⟩ := rCons_S h
  have : r = [] := h
  subst this
  rw [tS_of, tS_of]
  rfl
end Go.Proofs.Ytcfncjejpjjhdaa.E
