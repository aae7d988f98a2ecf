import Derived.Test.YthicbfopjakiiaaMk
import Derived.Test.YthicbfopjakiiaaMn
namespace Go.Proofs.Ythicbfopjakiiaa.E
open Go Go.RowKit
set_option linter.unusedSimpArgs false
set_option linter.unusedVariables false

theorem OwnR.cutTo {s : Nat} {e : TypeId} {w : World} {A : Option Addr} {c : Nat} {α : Type} {f : α → List Value} {l : List α} (hf : ∀ x, (f x).length = s) (hs : 0 < s) (h : OwnR s e w (.slice A l.length c) l.length (l.flatMap f)) (j : Nat) (hj : j ≤ l.length) :
    rRow s (fun _ us x => us = f x) w [sliced A 0 j c s] (l.take j) := by
  obtain ⟨A', c', he, hc, hm⟩ := h.slice
  cases he
  have hlen : (l.take j).length = j := by rw [List.length_take]; omega
  refine ⟨_, _, by rw [hlen]; rfl, by rw [hlen]; omega, by omega, fun i x hx => ?_⟩
  have hi : i < j := by
    have := (List.getElem?_eq_some_iff.1 hx).1
    omega
  obtain ⟨g, c2, he, hcell⟩ := rowAt hf h i (by omega) hs
  cases he
  rw [List.getElem?_take, if_pos hi, List.getElem?_eq_getElem (by omega)] at hx
  cases hx
  refine ⟨⟨g, 0, none⟩, f l[i], ?_, hf _, fun k u hu => ?_, rfl⟩
  · rw [if_neg (by omega), Option.map_some, add0, Nat.zero_mul]
  · rw [add0, Nat.zero_add]
    exact hcell k u hu
def sentF (x : Int × Msg) : List Value := .int .i64 x.1 :: (x.2.L.cells x.2.p x.2.q).toList
theorem sentF_len (x : Int × Msg) : (sentF x).length = 15 := rfl
theorem und72 : Try.prog.underlying 72 = some (.slice 79) := by kernel_rfl
theorem sz79 : (Try.prog.info? 79).map (·.size) = some 15 := by kernel_rfl
theorem sz72 : (Try.prog.info? 72).map (·.size) = some 1 := by kernel_rfl
theorem one72 : oneB Try.prog 72 = true := by kernel_rfl
theorem s790 : fofs Try.prog 79 0 = some (0, 1) := by kernel_rfl
theorem s791 : fofs Try.prog 79 1 = some (1, 14) := by kernel_rfl
theorem n740 : fofs Try.prog 74 0 = some (0, 1) := by kernel_rfl
theorem n741 : fofs Try.prog 74 1 = some (1, 1) := by kernel_rfl
theorem inf79 : (Try.prog.info? 79).map (fun i => (i.zero, i.size, i.bytes)) = some (some (.agg (sentF (0, ⟨zeroLet, .slice none 0 0, .slice none 0 0, [], []⟩)).toArray), 15, 176) := by kernel_rfl
/-- Where a number stands; -1: nowhere. -/
def atN (n : Int) (l : List (Int × Msg)) : Int := match idxK n l with
  | some p => p.1
  | none => -1
theorem idxK_at {α : Type} {n : Int} : ∀ {l : List (Int × α)} {i : Nat} {v : α}, idxK n l = some (i, v) → ∃ h : i < l.length, l[i] = (n, v) ∧ delK n l = l.take i ++ l.drop (i + 1) ∧ getK n l = some v
  | [], _, _, h => by cases h
  | (a, u) :: r, i, v, h => by
    rw [idxK] at h
    split at h
    · rename_i hk
      cases h
      exact ⟨by simp, by simp [hk], by simp [delK, hk], by simp [getK, hk]⟩
    · rename_i hk
      cases hx : idxK n r with
      | none => rw [hx] at h; cases h
      | some p =>
        obtain ⟨j, x⟩ := p
        rw [hx] at h
        simp only [Option.map_some, Option.some.injEq, Prod.mk.injEq] at h
        obtain ⟨rfl, rfl⟩ := h
        obtain ⟨h1, h2, h3, h4⟩ := idxK_at hx
        refine ⟨by simp only [List.length_cons]; omega, by simpa using h2, ?_, ?_⟩
        · rw [delK, if_neg hk, h3]; simp
        · rw [getK, if_neg hk, h4]
theorem idxK_getK_none {α : Type} {n : Int} {l : List (Int × α)} (h : idxK n l = none) : getK n l = none ∧ delK n l = l := ⟨by rw [getK_idx, h]; rfl, delK_none n l h⟩
/-- A net of the reference's, all in F. -/
def RefN (F : Nat → Prop) (w : World) (g last : Nat) (l : List (Int × Msg)) : Prop :=
  F g ∧ ∃ rv, Blk w g 74 #[rv, .int .i64 last] ∧ w.ownsRow 0 79 15 rv l.length (l.flatMap sentF) ∧ (∀ k, rv.ownBlock = some k → F k) ∧ rv.ownBlock ≠ some g
section
variable {F G : Nat → Prop} {w w' : World} {g last : Nat} {l : List (Int × Msg)}
theorem RefN.turns (h : RefN F w g last l) (hT : Turns G w w') (hG : ∀ k, F k → ¬ G k) : RefN F w' g last l := by
  obtain ⟨h0, rv, h1, h2, h3, h4⟩ := h
  exact ⟨h0, rv, h1.turns hT (hG _ h0), ownsRow_turns h2 hT fun k hk => hG k (h3 k hk), h3, h4⟩
theorem RefN.re' (h : RefN F w g last l) (hG : ∀ k, k < w.heap.size → F k → G k) : RefN G w g last l := by
  obtain ⟨h0, rv, h1, h2, h3, h4⟩ := h
  exact ⟨hG _ h1.lt h0, rv, h1, h2, fun k hk => hG k (ownsRow_lt h2 hk) (h3 k hk), h4⟩
theorem RefN.below (h : RefN F w g last l) (hb : Below w.heap.size w w') : RefN F w' g last l := h.turns (G := fun _ => False) (Turns.of_below hb) fun _ _ h => h
end
def refO (hu g last : Nat) (l : List (Int × Msg)) (hp : 0 < hu) : Thg where
  hu := hu
  ok := fun c w => RefN (fun k => c k = hu) w g last l
  pos := hp
  turns := fun h hT hG => h.turns hT fun k hk e => hG k e hk
  re := fun h hc => h.re' fun k hk e => (hc k hk).trans e
/-- A call on a net of the reference's. -/
theorem Mem.ref {w0 w : World} {A B : List Thg} {hu g last : Nat} {l : List (Int × Msg)} {hp : 0 < hu} (h : Mem w0 w (A ++ refO hu g last l hp :: B)) (hd : ∀ x ∈ A ++ B, x.hu ≠ hu) :
    ∃ F, RefN F w g last l ∧ ∀ last' l' w', RefN (Ext F w.heap.size) w' g last' l' → Turns F w w' → Mem w0 w' (A ++ refO hu g last' l' hp :: B) := by
  obtain ⟨c, h1, back⟩ := h.call hd
  refine ⟨fun k => c k = hu, h1, fun last' l' w' hE hT => back (refO hu g last' l' hp) w' ⟨col c w.heap.size hu, col_lt _ _ _, RefN.re' (G := fun k => col c w.heap.size hu k = hu) hE fun k hk e => ?_, hT⟩⟩
  rcases Nat.lt_or_ge k w.heap.size with hlt | hge
  · show col c w.heap.size hu k = hu
    rw [col_lt _ _ _ k hlt]
    exact e.elim id fun e => absurd e (by omega)
  · exact col_ge _ _ _ hge
section
variable {F : Nat → Prop} {w : World} {g last : Nat} {l : List (Int × Msg)}
theorem at41 (h : RefN F w g last l) (hl : l.length ≤ 100000) (n : Int) : CallP Try.prog 41 #[.pointer (some ⟨g, 0, none⟩), .int .i64 n] (fun r w' => r = .int .i64 (atN n l) ∧ w = w') w := by
  obtain ⟨h0, rv, hb, ho, _, _⟩ := h
  have hR := OwnR.of_own ho
  obtain ⟨A, c, rfl, hc, hm⟩ := hR.slice
  refine ⟨S41.calls _ _ _ _ ?_⟩
  unfold S41
  have c0 : w.cell? ⟨g, 0, none⟩ = some (.slice A l.length c) := hb.cell 0
  refine LoopP.inv1 (fun iv w' => ∃ k : Nat, k ≤ l.length ∧ iv = .int .i64 k ∧ w = w' ∧ idxK n l = (idxK n (l.drop k)).map fun p => (p.1 + k, p.2)) (fun iv _ => l.length - (intOf iv).toNat) ⟨0, by omega, rfl, rfl, by simp⟩ ?_
  rintro _ w ⟨k, hk, rfl, rfl, hid⟩ J hJ
  dsimp only [List.headD_cons, List.tail_cons]
  (repeat with_reducible first | refine fd n740 (by decide) ?_| refine ld one72 c0 ?_|refine z_a ?_|refine z_b ?_|refine z_c ?_|refine z_d ?_|refine z_e ?_|refine z_f ?_|refine z_g ?_|refine z_h ?_|refine z_i ?_|refine z_j ?_|refine z_k ?_|refine z_l ?_|refine z_m (by omega) ?_|refine z_n (by omega) ?_|refine z_o (by omega) ?_|refine z_p (by omega) ?_|refine z_q (by omega) ?_|refine z_r (by omega) ?_|refine z_s (by omega) ?_|refine z_t (by omega) ?_|refine z_u (by omega) ?_|refine z_v (by omega) ?_|refine z_w (by omega) ?_|refine z_x (by omega) ?_|refine z_y (by omega) ?_|refine z_z (by omega) ?_|refine z_A ?_|refine z_B ?_|refine z_C ?_|refine z_D ?_|refine z_E ?_|refine z_F ?_|refine z_G ?_|refine z_H ?_|refine z_I ?_|refine z_J ?_|refine z_K (by omega) (by decide) ?_|refine z_L (by omega) (by decide) ?_|refine z_M (by omega) ?_|refine z_N (by omega) ?_|refine z_O (by omega) ?_|refine z_P ?_|refine z_Q ?_|refine z_R ?_|refine z_S ?_|refine z_T ?_|refine z_U (by decide) ?_|refine z_V (by decide) ?_)
  refine ln und72 ?_
  refine bi_lss_c (fun h => ?_) (fun h => ?_)
  · have hk' : k < l.length := by omega
    obtain ⟨g2, c2, he, hcell⟩ := rowAt sentF_len hR k hk' (by omega)
    cases he
    have ck : w.cell? ⟨g2, k * 15 + 0, none⟩ = some (.int .i64 l[k].1) := hcell 0 _ rfl
    rw [List.drop_eq_getElem_cons hk', show l[k] = (l[k].1, l[k].2) from rfl, idxK] at hid
    (repeat with_reducible first | refine fd n740 (by decide) ?_| refine ld one72 c0 ?_|refine z_a ?_|refine z_b ?_|refine z_c ?_|refine z_d ?_|refine z_e ?_|refine z_f ?_|refine z_g ?_|refine z_h ?_|refine z_i ?_|refine z_j ?_|refine z_k ?_|refine z_l ?_|refine z_m (by omega) ?_|refine z_n (by omega) ?_|refine z_o (by omega) ?_|refine z_p (by omega) ?_|refine z_q (by omega) ?_|refine z_r (by omega) ?_|refine z_s (by omega) ?_|refine z_t (by omega) ?_|refine z_u (by omega) ?_|refine z_v (by omega) ?_|refine z_w (by omega) ?_|refine z_x (by omega) ?_|refine z_y (by omega) ?_|refine z_z (by omega) ?_|refine z_A ?_|refine z_B ?_|refine z_C ?_|refine z_D ?_|refine z_E ?_|refine z_F ?_|refine z_G ?_|refine z_H ?_|refine z_I ?_|refine z_J ?_|refine z_K (by omega) (by decide) ?_|refine z_L (by omega) (by decide) ?_|refine z_M (by omega) ?_|refine z_N (by omega) ?_|refine z_O (by omega) ?_|refine z_P ?_|refine z_Q ?_|refine z_R ?_|refine z_S ?_|refine z_T ?_|refine z_U (by decide) ?_|refine z_V (by decide) ?_)
    refine ixG und72 sz79 k hk' ?_
    refine fdG s790 (by decide) ?_
    (repeat with_reducible first | refine ld one3 ck ?_|refine z_a ?_|refine z_b ?_|refine z_c ?_|refine z_d ?_|refine z_e ?_|refine z_f ?_|refine z_g ?_|refine z_h ?_|refine z_i ?_|refine z_j ?_|refine z_k ?_|refine z_l ?_|refine z_m (by omega) ?_|refine z_n (by omega) ?_|refine z_o (by omega) ?_|refine z_p (by omega) ?_|refine z_q (by omega) ?_|refine z_r (by omega) ?_|refine z_s (by omega) ?_|refine z_t (by omega) ?_|refine z_u (by omega) ?_|refine z_v (by omega) ?_|refine z_w (by omega) ?_|refine z_x (by omega) ?_|refine z_y (by omega) ?_|refine z_z (by omega) ?_|refine z_A ?_|refine z_B ?_|refine z_C ?_|refine z_D ?_|refine z_E ?_|refine z_F ?_|refine z_G ?_|refine z_H ?_|refine z_I ?_|refine z_J ?_|refine z_K (by omega) (by decide) ?_|refine z_L (by omega) (by decide) ?_|refine z_M (by omega) ?_|refine z_N (by omega) ?_|refine z_O (by omega) ?_|refine z_P ?_|refine z_Q ?_|refine z_R ?_|refine z_S ?_|refine z_T ?_|refine z_U (by decide) ?_|refine z_V (by decide) ?_)
    refine bi_eql_c (fun h => ?_) (fun h => ?_)
    · (repeat with_reducible first|refine z_a ?_|refine z_b ?_|refine z_c ?_|refine z_d ?_|refine z_e ?_|refine z_f ?_|refine z_g ?_|refine z_h ?_|refine z_i ?_|refine z_j ?_|refine z_k ?_|refine z_l ?_|refine z_m (by omega) ?_|refine z_n (by omega) ?_|refine z_o (by omega) ?_|refine z_p (by omega) ?_|refine z_q (by omega) ?_|refine z_r (by omega) ?_|refine z_s (by omega) ?_|refine z_t (by omega) ?_|refine z_u (by omega) ?_|refine z_v (by omega) ?_|refine z_w (by omega) ?_|refine z_x (by omega) ?_|refine z_y (by omega) ?_|refine z_z (by omega) ?_|refine z_A ?_|refine z_B ?_|refine z_C ?_|refine z_D ?_|refine z_E ?_|refine z_F ?_|refine z_G ?_|refine z_H ?_|refine z_I ?_|refine z_J ?_|refine z_K (by omega) (by decide) ?_|refine z_L (by omega) (by decide) ?_|refine z_M (by omega) ?_|refine z_N (by omega) ?_|refine z_O (by omega) ?_|refine z_P ?_|refine z_Q ?_|refine z_R ?_|refine z_S ?_|refine z_T ?_|refine z_U (by decide) ?_|refine z_V (by decide) ?_)
      refine ⟨?_, rfl⟩
      rw [if_pos h.symm] at hid
      unfold atN
      rw [hid]
      simp
    · (repeat with_reducible first|refine z_a ?_|refine z_b ?_|refine z_c ?_|refine z_d ?_|refine z_e ?_|refine z_f ?_|refine z_g ?_|refine z_h ?_|refine z_i ?_|refine z_j ?_|refine z_k ?_|refine z_l ?_|refine z_m (by omega) ?_|refine z_n (by omega) ?_|refine z_o (by omega) ?_|refine z_p (by omega) ?_|refine z_q (by omega) ?_|refine z_r (by omega) ?_|refine z_s (by omega) ?_|refine z_t (by omega) ?_|refine z_u (by omega) ?_|refine z_v (by omega) ?_|refine z_w (by omega) ?_|refine z_x (by omega) ?_|refine z_y (by omega) ?_|refine z_z (by omega) ?_|refine z_A ?_|refine z_B ?_|refine z_C ?_|refine z_D ?_|refine z_E ?_|refine z_F ?_|refine z_G ?_|refine z_H ?_|refine z_I ?_|refine z_J ?_|refine z_K (by omega) (by decide) ?_|refine z_L (by omega) (by decide) ?_|refine z_M (by omega) ?_|refine z_N (by omega) ?_|refine z_O (by omega) ?_|refine z_P ?_|refine z_Q ?_|refine z_R ?_|refine z_S ?_|refine z_T ?_|refine z_U (by decide) ?_|refine z_V (by decide) ?_)
      refine hJ _ _ ⟨k + 1, by omega, by simp, rfl, ?_⟩ (by simp [intOf]; omega)
      rw [if_neg fun e => h e.symm] at hid
      rw [hid, Option.map_map]
      congr 1
      funext p
      simp only [Function.comp]
      rw [Nat.add_right_comm, Nat.add_assoc]
  · have hkl : k = l.length := by omega
    subst hkl
    (repeat with_reducible first|refine z_a ?_|refine z_b ?_|refine z_c ?_|refine z_d ?_|refine z_e ?_|refine z_f ?_|refine z_g ?_|refine z_h ?_|refine z_i ?_|refine z_j ?_|refine z_k ?_|refine z_l ?_|refine z_m (by omega) ?_|refine z_n (by omega) ?_|refine z_o (by omega) ?_|refine z_p (by omega) ?_|refine z_q (by omega) ?_|refine z_r (by omega) ?_|refine z_s (by omega) ?_|refine z_t (by omega) ?_|refine z_u (by omega) ?_|refine z_v (by omega) ?_|refine z_w (by omega) ?_|refine z_x (by omega) ?_|refine z_y (by omega) ?_|refine z_z (by omega) ?_|refine z_A ?_|refine z_B ?_|refine z_C ?_|refine z_D ?_|refine z_E ?_|refine z_F ?_|refine z_G ?_|refine z_H ?_|refine z_I ?_|refine z_J ?_|refine z_K (by omega) (by decide) ?_|refine z_L (by omega) (by decide) ?_|refine z_M (by omega) ?_|refine z_N (by omega) ?_|refine z_O (by omega) ?_|refine z_P ?_|refine z_Q ?_|refine z_R ?_|refine z_S ?_|refine z_T ?_|refine z_U (by decide) ?_|refine z_V (by decide) ?_)
    refine ⟨?_, rfl⟩
    rw [List.drop_length] at hid
    unfold atN
    rw [hid]
    rfl
/-- A letter is loaded out of a row. -/
theorem sent_msg {rv : Value} (ho : OwnR 15 79 w rv l.length (l.flatMap sentF)) (i : Nat) (hi : i < l.length) : ∃ g2 c2, rv = .slice (some ⟨g2, 0, none⟩) l.length c2 ∧ w.cell? ⟨g2, i * 15 + 0, none⟩ = some (.int .i64 l[i].1) ∧
    ∀ j u, ((l[i].2.L.cells l[i].2.p l[i].2.q).toList)[j]? = some u → w.cell? ((⟨g2, i * 15 + 1, none⟩ : Addr).add j) = some u := by
  obtain ⟨g2, c2, he, hcell⟩ := rowAt sentF_len ho i hi (by omega)
  refine ⟨g2, c2, he, hcell 0 _ rfl, fun j u hu => ?_⟩
  rw [add0, Nat.add_assoc, Nat.add_comm 1 j]
  exact hcell (j + 1) u hu
theorem add65 (h : RefN F w g last l) (hl : l.length < 4096) (hlast : last ≤ 1000000000) (m : Msg) (hp : m.p.oneCell' = true) (hq : m.q.oneCell' = true) :
    CallP Try.prog 65 #[.pointer (some ⟨g, 0, none⟩), .agg (m.L.cells m.p m.q)] (fun r w' => r = .tuple #[.int .i64 ((last + 1 : Nat) : Int), .int .i64 0] ∧ RefN (Ext F w.heap.size) w' g (last + 1) (l ++ [(((last + 1 : Nat) : Int), m)]) ∧ Turns F w w') w := by
  obtain ⟨h0, rv, hb, ho, hF, hne⟩ := h
  have hR := OwnR.of_own ho
  obtain ⟨A, c, rfl, hc, hm⟩ := hR.slice
  refine ⟨S65.calls _ _ _ _ ?_⟩
  unfold S65
  refine bxB (cs := m.L.cells m.p m.q) ?_
  intro gm w1 hgm hL hb1
  have hb_1 := hb.below' hb1
  have ho_1 := ownsRow_turns ho (Turns.of_below (F := fun _ => False) hb1) (fun _ _ h => h)
  have c0 : w1.cell? ⟨g, 0, none⟩ = some (.slice A l.length c) := hb_1.cell 0
  have c1 : w1.cell? ⟨g, 1, none⟩ = some (.int .i64 last) := hb_1.cell 1
  (repeat with_reducible first | refine fd n740 (by decide) ?_| refine ld one72 c0 ?_|refine z_a ?_|refine z_b ?_|refine z_c ?_|refine z_d ?_|refine z_e ?_|refine z_f ?_|refine z_g ?_|refine z_h ?_|refine z_i ?_|refine z_j ?_|refine z_k ?_|refine z_l ?_|refine z_m (by omega) ?_|refine z_n (by omega) ?_|refine z_o (by omega) ?_|refine z_p (by omega) ?_|refine z_q (by omega) ?_|refine z_r (by omega) ?_|refine z_s (by omega) ?_|refine z_t (by omega) ?_|refine z_u (by omega) ?_|refine z_v (by omega) ?_|refine z_w (by omega) ?_|refine z_x (by omega) ?_|refine z_y (by omega) ?_|refine z_z (by omega) ?_|refine z_A ?_|refine z_B ?_|refine z_C ?_|refine z_D ?_|refine z_E ?_|refine z_F ?_|refine z_G ?_|refine z_H ?_|refine z_I ?_|refine z_J ?_|refine z_K (by omega) (by decide) ?_|refine z_L (by omega) (by decide) ?_|refine z_M (by omega) ?_|refine z_N (by omega) ?_|refine z_O (by omega) ?_|refine z_P ?_|refine z_Q ?_|refine z_R ?_|refine z_S ?_|refine z_T ?_|refine z_U (by decide) ?_|refine z_V (by decide) ?_)
  refine ln und72 ?_
  refine bi_geq_f (by omega) ?_
  (repeat with_reducible first | refine fd n741 (by decide) ?_| refine ld one3 c1 ?_|refine z_a ?_|refine z_b ?_|refine z_c ?_|refine z_d ?_|refine z_e ?_|refine z_f ?_|refine z_g ?_|refine z_h ?_|refine z_i ?_|refine z_j ?_|refine z_k ?_|refine z_l ?_|refine z_m (by omega) ?_|refine z_n (by omega) ?_|refine z_o (by omega) ?_|refine z_p (by omega) ?_|refine z_q (by omega) ?_|refine z_r (by omega) ?_|refine z_s (by omega) ?_|refine z_t (by omega) ?_|refine z_u (by omega) ?_|refine z_v (by omega) ?_|refine z_w (by omega) ?_|refine z_x (by omega) ?_|refine z_y (by omega) ?_|refine z_z (by omega) ?_|refine z_A ?_|refine z_B ?_|refine z_C ?_|refine z_D ?_|refine z_E ?_|refine z_F ?_|refine z_G ?_|refine z_H ?_|refine z_I ?_|refine z_J ?_|refine z_K (by omega) (by decide) ?_|refine z_L (by omega) (by decide) ?_|refine z_M (by omega) ?_|refine z_N (by omega) ?_|refine z_O (by omega) ?_|refine z_P ?_|refine z_Q ?_|refine z_R ?_|refine z_S ?_|refine z_T ?_|refine z_U (by decide) ?_|refine z_V (by decide) ?_)
  rw [show (last : Int) + 1 = ((last + 1 : Nat) : Int) by omega]
  (repeat with_reducible first | refine fd n741 (by decide) ?_|refine z_a ?_|refine z_b ?_|refine z_c ?_|refine z_d ?_|refine z_e ?_|refine z_f ?_|refine z_g ?_|refine z_h ?_|refine z_i ?_|refine z_j ?_|refine z_k ?_|refine z_l ?_|refine z_m (by omega) ?_|refine z_n (by omega) ?_|refine z_o (by omega) ?_|refine z_p (by omega) ?_|refine z_q (by omega) ?_|refine z_r (by omega) ?_|refine z_s (by omega) ?_|refine z_t (by omega) ?_|refine z_u (by omega) ?_|refine z_v (by omega) ?_|refine z_w (by omega) ?_|refine z_x (by omega) ?_|refine z_y (by omega) ?_|refine z_z (by omega) ?_|refine z_A ?_|refine z_B ?_|refine z_C ?_|refine z_D ?_|refine z_E ?_|refine z_F ?_|refine z_G ?_|refine z_H ?_|refine z_I ?_|refine z_J ?_|refine z_K (by omega) (by decide) ?_|refine z_L (by omega) (by decide) ?_|refine z_M (by omega) ?_|refine z_N (by omega) ?_|refine z_O (by omega) ?_|refine z_P ?_|refine z_Q ?_|refine z_R ?_|refine z_S ?_|refine z_T ?_|refine z_U (by decide) ?_|refine z_V (by decide) ?_)
  refine st sz3 rfl (by rw [c1]; rfl) (hb_1.frozen 1) ?_
  have hb2 : Blk (w1.setCell ⟨g, 1, none⟩ (.int .i64 ((last + 1 : Nat) : Int))) g 74 #[.slice A l.length c, .int .i64 ((last + 1 : Nat) : Int)] := hb_1.set_ 1 _
  have hgl := hb.lt
  have hT2 : Turns (fun j => j = g) w1 (w1.setCell ⟨g, 1, none⟩ (.int .i64 ((last + 1 : Nat) : Int))) := Turns.setCell (F := fun j => j = g) (p := ⟨g, 1, none⟩) (Turns.refl _ w1) (.inl rfl) _
  have ho2 := ownsRow_turns ho_1 hT2 (fun k hk e => hne (by rw [hk, e]))
  have hL2 := hL.turns hT2 (by omega)
  generalize w1.setCell ⟨g, 1, none⟩ (.int .i64 ((last + 1 : Nat) : Int)) = w2 at *
  have hTF2 : Turns F w w2 := (Turns.of_below hb1).trans (hT2.mono fun k _ e => .inl (by rw [e]; exact h0))
  have hdr : Below w2.heap.size w2 w2.drew := (Below.refl _ _).drew
  have hb3 := hb2.below' hdr
  have ho3 := ownsRow_turns ho2 (Turns.of_below (F := fun _ => False) hdr) (fun _ _ h => h)
  have hL3 := hL2.below' hdr
  have hTF3 := hTF2.then_below hdr
  refine draw (fun w' => Blk w' g 74 #[.slice A l.length c, .int .i64 ((last + 1 : Nat) : Int)] ∧ Blk w' gm 58 (m.L.cells m.p m.q)) ⟨hb3, hL3⟩ ?_
  clear hb2 ho2 hL2 hTF2 hT2 c0 c1
  generalize w2.drew = w3 at *
  (repeat with_reducible first | refine yfd n740 (by decide) ?_|refine z_W ?_|refine z_a ?_|refine z_b ?_|refine z_c ?_|refine z_d ?_|refine z_e ?_|refine z_f ?_|refine z_g ?_|refine z_h ?_|refine z_i ?_|refine z_j ?_|refine z_k ?_|refine z_l ?_|refine z_X (by omega) ?_|refine z_Y (by omega) ?_|refine z_Z (by omega) ?_|refine z_a1 (by omega) ?_|refine z_b1 (by omega) ?_|refine z_c1 (by omega) ?_|refine z_d1 (by omega) ?_|refine z_e1 (by omega) ?_|refine z_f1 (by omega) ?_|refine z_g1 (by omega) ?_|refine z_h1 (by omega) ?_|refine z_i1 (by omega) ?_|refine z_j1 (by omega) ?_|refine z_k1 (by omega) ?_|refine z_l1 ?_|refine z_m1 ?_|refine z_n1 ?_|refine z_o1 ?_|refine z_p1 ?_|refine z_q1 ?_|refine z_r1 ?_|refine z_s1 ?_|refine z_t1 ?_|refine z_u1 ?_|refine z_v1 (by omega) (by decide) ?_|refine z_w1 (by omega) (by decide) ?_|refine z_x1 (by omega) ?_|refine z_y1 (by omega) ?_|refine z_z1 (by omega) ?_|refine z_A1 ?_|refine z_B1 ?_|refine z_C1 ?_|refine z_D1 ?_|refine z_E1 ?_|refine z_F1 (by decide) ?_|refine z_G1 (by decide) ?_)
  refine yl1 one72 (v := .slice A l.length c) (fun w' h => h.1.cell 0) ?_
  (repeat with_reducible first | refine yfd n741 (by decide) ?_|refine z_W ?_|refine z_a ?_|refine z_b ?_|refine z_c ?_|refine z_d ?_|refine z_e ?_|refine z_f ?_|refine z_g ?_|refine z_h ?_|refine z_i ?_|refine z_j ?_|refine z_k ?_|refine z_l ?_|refine z_X (by omega) ?_|refine z_Y (by omega) ?_|refine z_Z (by omega) ?_|refine z_a1 (by omega) ?_|refine z_b1 (by omega) ?_|refine z_c1 (by omega) ?_|refine z_d1 (by omega) ?_|refine z_e1 (by omega) ?_|refine z_f1 (by omega) ?_|refine z_g1 (by omega) ?_|refine z_h1 (by omega) ?_|refine z_i1 (by omega) ?_|refine z_j1 (by omega) ?_|refine z_k1 (by omega) ?_|refine z_l1 ?_|refine z_m1 ?_|refine z_n1 ?_|refine z_o1 ?_|refine z_p1 ?_|refine z_q1 ?_|refine z_r1 ?_|refine z_s1 ?_|refine z_t1 ?_|refine z_u1 ?_|refine z_v1 (by omega) (by decide) ?_|refine z_w1 (by omega) (by decide) ?_|refine z_x1 (by omega) ?_|refine z_y1 (by omega) ?_|refine z_z1 (by omega) ?_|refine z_A1 ?_|refine z_B1 ?_|refine z_C1 ?_|refine z_D1 ?_|refine z_E1 ?_|refine z_F1 (by decide) ?_|refine z_G1 (by decide) ?_)
  refine yl1 one3 (v := .int .i64 ((last + 1 : Nat) : Int)) (fun w' h => h.1.cell 1) ?_
  refine yldA agg58 (fun w' h => h.2) (by exact sz58) ?_
  refine act ?_
  refine bd (cells := (sentF (((last + 1 : Nat) : Int), m)).toArray) (by kernel_rfl) ?_
  refine ⟨_, ⟨hb3, hL3⟩, fun _ h => h, ?_⟩
  refine act ?_
  refine lift (v := .slice (some ⟨w3.heap.size, 0, none⟩) 1 1) (w' := w3.alloc (.cells (sentF (((last + 1 : Nat) : Int), m)).toArray 79)) (by kernel_rfl) ?_
  have hB := Blk.new w3 79 (sentF (((last + 1 : Nat) : Int), m)).toArray
  have hal := (Below.refl w3.heap.size w3).alloc (Nat.le_refl _) (.cells (sentF (((last + 1 : Nat) : Int), m)).toArray 79)
  have hb4 := hb3.below' hal
  have hL4 := hL3.below' hal
  have ho4 := ownsRow_turns ho3 (Turns.of_below (F := fun _ => False) hal) (fun _ _ h => h)
  have hTF4 := hTF3.then_below hal
  have hrlt : ∀ k, (Value.slice A l.length c).ownBlock = some k → k < w.heap.size := fun k hk => ownsRow_lt ho hk
  refine ⟨_, ⟨hb4, hL4⟩, fun _ h => h, ?_⟩
  clear hb3 hL3 ho3 hTF3
  generalize w3.alloc (.cells (sentF (((last + 1 : Nat) : Int), m)).toArray 79) = w4 at *
  refine act ?_
  refine apGb und72 inf79 (by rfl) (by decide) ho4 (a := ⟨w3.heap.size, 0, none⟩) (m := 1) (c := 1) (news := sentF (((last + 1 : Nat) : Int), m)) (by rw [sentF_len]) (fun j u hu => by
    rw [add0, Nat.zero_add, hB.cell j]
    simpa using hu) (fun u hu => by
      simp only [sentF, Let.cells, List.mem_cons, List.not_mem_nil, or_false] at hu
      rcases hu with rfl | rfl | rfl | rfl | rfl | rfl | rfl | rfl | rfl | rfl | rfl | rfl | rfl | rfl | rfl <;> first | rfl | exact hp | exact hq) (by omega) (by omega) ?_
  intro v' w5 ho5 hv5 hT5
  have hs4 := hTF4.size
  have hb5 := hb4.turns hT5 hne
  have hL5 := hL4.turns hT5 (fun e => by have := hrlt _ e; omega)
  have hTF5 : Turns F w w5 := hTF4.trans (hT5.mono fun k _ e => .inl (hF k e))
  refine ⟨_, ⟨hb5, hL5⟩, fun _ h => h, ?_⟩
  (repeat with_reducible first | refine yfd n740 (by decide) ?_|refine z_W ?_|refine z_a ?_|refine z_b ?_|refine z_c ?_|refine z_d ?_|refine z_e ?_|refine z_f ?_|refine z_g ?_|refine z_h ?_|refine z_i ?_|refine z_j ?_|refine z_k ?_|refine z_l ?_|refine z_X (by omega) ?_|refine z_Y (by omega) ?_|refine z_Z (by omega) ?_|refine z_a1 (by omega) ?_|refine z_b1 (by omega) ?_|refine z_c1 (by omega) ?_|refine z_d1 (by omega) ?_|refine z_e1 (by omega) ?_|refine z_f1 (by omega) ?_|refine z_g1 (by omega) ?_|refine z_h1 (by omega) ?_|refine z_i1 (by omega) ?_|refine z_j1 (by omega) ?_|refine z_k1 (by omega) ?_|refine z_l1 ?_|refine z_m1 ?_|refine z_n1 ?_|refine z_o1 ?_|refine z_p1 ?_|refine z_q1 ?_|refine z_r1 ?_|refine z_s1 ?_|refine z_t1 ?_|refine z_u1 ?_|refine z_v1 (by omega) (by decide) ?_|refine z_w1 (by omega) (by decide) ?_|refine z_x1 (by omega) ?_|refine z_y1 (by omega) ?_|refine z_z1 (by omega) ?_|refine z_A1 ?_|refine z_B1 ?_|refine z_C1 ?_|refine z_D1 ?_|refine z_E1 ?_|refine z_F1 (by decide) ?_|refine z_G1 (by decide) ?_)
  refine st sz72 (by rcases ho5.2 with ⟨e, _⟩ | ⟨_, _, _, e, _⟩ <;> rw [e] <;> rfl) (by rw [hb5.cell 0]; rfl) (hb5.frozen 0) ?_
  have hb6 := hb5.set_ 0 v'
  have hT6 : Turns (fun j => j = g) w5 (w5.setCell ⟨g, 0, none⟩ v') := Turns.setCell (F := fun j => j = g) (p := ⟨g, 0, none⟩) (Turns.refl _ w5) (.inl rfl) _
  have hvne : v'.ownBlock ≠ some g := by
    rcases hv5 with e | e
    · rw [e]; exact hne
    · rw [e]; intro h; cases h; omega
  have ho6 := ownsRow_turns ho5 hT6 (fun k hk e => hvne (by rw [hk, e]))
  have hTF6 : Turns F w (w5.setCell ⟨g, 0, none⟩ v') := hTF5.trans (hT6.mono fun k _ e => .inl (by rw [e]; exact h0))
  generalize w5.setCell ⟨g, 0, none⟩ v' = w6 at *
  replace hb6 : Blk w6 g 74 #[v', .int .i64 ((last + 1 : Nat) : Int)] := hb6
  have c1 : w6.cell? ⟨g, 1, none⟩ = some (.int .i64 ((last + 1 : Nat) : Int)) := hb6.cell 1
  (repeat with_reducible first | refine fd n741 (by decide) ?_| refine ld one3 c1 ?_|refine z_a ?_|refine z_b ?_|refine z_c ?_|refine z_d ?_|refine z_e ?_|refine z_f ?_|refine z_g ?_|refine z_h ?_|refine z_i ?_|refine z_j ?_|refine z_k ?_|refine z_l ?_|refine z_m (by omega) ?_|refine z_n (by omega) ?_|refine z_o (by omega) ?_|refine z_p (by omega) ?_|refine z_q (by omega) ?_|refine z_r (by omega) ?_|refine z_s (by omega) ?_|refine z_t (by omega) ?_|refine z_u (by omega) ?_|refine z_v (by omega) ?_|refine z_w (by omega) ?_|refine z_x (by omega) ?_|refine z_y (by omega) ?_|refine z_z (by omega) ?_|refine z_A ?_|refine z_B ?_|refine z_C ?_|refine z_D ?_|refine z_E ?_|refine z_F ?_|refine z_G ?_|refine z_H ?_|refine z_I ?_|refine z_J ?_|refine z_K (by omega) (by decide) ?_|refine z_L (by omega) (by decide) ?_|refine z_M (by omega) ?_|refine z_N (by omega) ?_|refine z_O (by omega) ?_|refine z_P ?_|refine z_Q ?_|refine z_R ?_|refine z_S ?_|refine z_T ?_|refine z_U (by decide) ?_|refine z_V (by decide) ?_)
  refine ⟨rfl, ⟨.inl h0, v', hb6, ?_, fun k hk => ?_, hvne⟩, hTF6⟩
  · rw [List.length_append, List.flatMap_append]
    exact ho6
  · rcases hv5 with e | e
    · exact .inl (hF k (by rw [← e]; exact hk))
    · rw [e] at hk; cases hk; exact .inr hs4
theorem send37 (h : RefN F w g last l) (hl : l.length < 4096) (hlast : last ≤ 1000000000) (m : Msg) (hp : Pairs w [m.p] m.ps) (hq : Intents w [m.q] m.is) :
    CallP Try.prog 37 #[.pointer (some ⟨g, 0, none⟩), .agg (m.L.cells m.p m.q)] (fun r w' => (if packErr m.L m.ps m.is ≠ 0 then r = .tuple #[.int .i64 0, .int .i64 (packErr m.L m.ps m.is)] ∧ RefN (Ext F w.heap.size) w' g last l
      else r = .tuple #[.int .i64 ((last + 1 : Nat) : Int), .int .i64 0] ∧ RefN (Ext F w.heap.size) w' g (last + 1) (l ++ [(((last + 1 : Nat) : Int), m)])) ∧ Turns F w w') w := by
  have o1 : m.p.oneCell' = true := by obtain ⟨A, c, e, _⟩ := hp.slice; rw [e]; rfl
  have o2 : m.q.oneCell' = true := by obtain ⟨A, c, e, _⟩ := hq.slice; rw [e]; rfl
  refine ⟨S37.calls _ _ _ _ ?_⟩
  unfold S37
  refine bxB (cs := m.L.cells m.p m.q) ?_
  intro gm w1 hgm hL hb1
  refine ldA agg58 hL (by exact sz58) ?_
  refine (refPack_spec m.L m.p m.q m.ps m.is w1 (keeps_Pairs _ _ _ _ hb1 hp) (keeps_Intents _ _ _ _ hb1 hq)).mono ?_
  rintro _ w2 ⟨⟨s, rfl⟩, hb2⟩
  have hb12 := below_then hb1 hb2
  have h2 := h.below hb12
  (repeat with_reducible first|refine z_a ?_|refine z_b ?_|refine z_c ?_|refine z_d ?_|refine z_e ?_|refine z_f ?_|refine z_g ?_|refine z_h ?_|refine z_i ?_|refine z_j ?_|refine z_k ?_|refine z_l ?_|refine z_m (by omega) ?_|refine z_n (by omega) ?_|refine z_o (by omega) ?_|refine z_p (by omega) ?_|refine z_q (by omega) ?_|refine z_r (by omega) ?_|refine z_s (by omega) ?_|refine z_t (by omega) ?_|refine z_u (by omega) ?_|refine z_v (by omega) ?_|refine z_w (by omega) ?_|refine z_x (by omega) ?_|refine z_y (by omega) ?_|refine z_z (by omega) ?_|refine z_A ?_|refine z_B ?_|refine z_C ?_|refine z_D ?_|refine z_E ?_|refine z_F ?_|refine z_G ?_|refine z_H ?_|refine z_I ?_|refine z_J ?_|refine z_K (by omega) (by decide) ?_|refine z_L (by omega) (by decide) ?_|refine z_M (by omega) ?_|refine z_N (by omega) ?_|refine z_O (by omega) ?_|refine z_P ?_|refine z_Q ?_|refine z_R ?_|refine z_S ?_|refine z_T ?_|refine z_U (by decide) ?_|refine z_V (by decide) ?_)
  refine bi_neq_c (fun he => ?_) (fun he => ?_)
  · (repeat with_reducible first|refine z_a ?_|refine z_b ?_|refine z_c ?_|refine z_d ?_|refine z_e ?_|refine z_f ?_|refine z_g ?_|refine z_h ?_|refine z_i ?_|refine z_j ?_|refine z_k ?_|refine z_l ?_|refine z_m (by omega) ?_|refine z_n (by omega) ?_|refine z_o (by omega) ?_|refine z_p (by omega) ?_|refine z_q (by omega) ?_|refine z_r (by omega) ?_|refine z_s (by omega) ?_|refine z_t (by omega) ?_|refine z_u (by omega) ?_|refine z_v (by omega) ?_|refine z_w (by omega) ?_|refine z_x (by omega) ?_|refine z_y (by omega) ?_|refine z_z (by omega) ?_|refine z_A ?_|refine z_B ?_|refine z_C ?_|refine z_D ?_|refine z_E ?_|refine z_F ?_|refine z_G ?_|refine z_H ?_|refine z_I ?_|refine z_J ?_|refine z_K (by omega) (by decide) ?_|refine z_L (by omega) (by decide) ?_|refine z_M (by omega) ?_|refine z_N (by omega) ?_|refine z_O (by omega) ?_|refine z_P ?_|refine z_Q ?_|refine z_R ?_|refine z_S ?_|refine z_T ?_|refine z_U (by decide) ?_|refine z_V (by decide) ?_)
    exact ⟨by rw [if_pos (show packErr m.L m.ps m.is ≠ 0 by omega)]; exact ⟨rfl, h2.re' fun k _ e => .inl e⟩, Turns.of_below hb12⟩
  · (repeat with_reducible first|refine z_a ?_|refine z_b ?_|refine z_c ?_|refine z_d ?_|refine z_e ?_|refine z_f ?_|refine z_g ?_|refine z_h ?_|refine z_i ?_|refine z_j ?_|refine z_k ?_|refine z_l ?_|refine z_m (by omega) ?_|refine z_n (by omega) ?_|refine z_o (by omega) ?_|refine z_p (by omega) ?_|refine z_q (by omega) ?_|refine z_r (by omega) ?_|refine z_s (by omega) ?_|refine z_t (by omega) ?_|refine z_u (by omega) ?_|refine z_v (by omega) ?_|refine z_w (by omega) ?_|refine z_x (by omega) ?_|refine z_y (by omega) ?_|refine z_z (by omega) ?_|refine z_A ?_|refine z_B ?_|refine z_C ?_|refine z_D ?_|refine z_E ?_|refine z_F ?_|refine z_G ?_|refine z_H ?_|refine z_I ?_|refine z_J ?_|refine z_K (by omega) (by decide) ?_|refine z_L (by omega) (by decide) ?_|refine z_M (by omega) ?_|refine z_N (by omega) ?_|refine z_O (by omega) ?_|refine z_P ?_|refine z_Q ?_|refine z_R ?_|refine z_S ?_|refine z_T ?_|refine z_U (by decide) ?_|refine z_V (by decide) ?_)
    refine ldA agg58 (hL.below' hb2) (by exact sz58) ?_
    refine (add65 h2 hl hlast m o1 o2).mono ?_
    rintro _ w3 ⟨rfl, h3, hT3⟩
    (repeat with_reducible first|refine z_a ?_|refine z_b ?_|refine z_c ?_|refine z_d ?_|refine z_e ?_|refine z_f ?_|refine z_g ?_|refine z_h ?_|refine z_i ?_|refine z_j ?_|refine z_k ?_|refine z_l ?_|refine z_m (by omega) ?_|refine z_n (by omega) ?_|refine z_o (by omega) ?_|refine z_p (by omega) ?_|refine z_q (by omega) ?_|refine z_r (by omega) ?_|refine z_s (by omega) ?_|refine z_t (by omega) ?_|refine z_u (by omega) ?_|refine z_v (by omega) ?_|refine z_w (by omega) ?_|refine z_x (by omega) ?_|refine z_y (by omega) ?_|refine z_z (by omega) ?_|refine z_A ?_|refine z_B ?_|refine z_C ?_|refine z_D ?_|refine z_E ?_|refine z_F ?_|refine z_G ?_|refine z_H ?_|refine z_I ?_|refine z_J ?_|refine z_K (by omega) (by decide) ?_|refine z_L (by omega) (by decide) ?_|refine z_M (by omega) ?_|refine z_N (by omega) ?_|refine z_O (by omega) ?_|refine z_P ?_|refine z_Q ?_|refine z_R ?_|refine z_S ?_|refine z_T ?_|refine z_U (by decide) ?_|refine z_V (by decide) ?_)
    exact ⟨by rw [if_neg (show ¬ packErr m.L m.ps m.is ≠ 0 by omega)]; exact ⟨rfl, h3.re' fun k _ e => e.imp id fun e => Nat.le_trans hb12.size e⟩, (Turns.of_below hb12).trans (hT3.mono fun k _ e => .inl e)⟩
theorem twice40 (h : RefN F w g last l) (hl : l.length < 4096) (hlast : last ≤ 1000000000) (hone : ∀ x ∈ l, x.2.p.oneCell' = true ∧ x.2.q.oneCell' = true) (n : Int) :
    CallP Try.prog 40 #[.pointer (some ⟨g, 0, none⟩), .int .i64 n] (fun r w' => (match getK n l with
      | none => r = .tuple #[.int .i64 0, .int .i64 7] ∧ RefN (Ext F w.heap.size) w' g last l
      | some m => r = .tuple #[.int .i64 ((last + 1 : Nat) : Int), .int .i64 0] ∧ RefN (Ext F w.heap.size) w' g (last + 1) (l ++ [(((last + 1 : Nat) : Int), m)])) ∧ Turns F w w') w := by
  refine ⟨S40.calls _ _ _ _ ?_⟩
  unfold S40
  refine (at41 h (by omega) n).mono ?_
  rintro _ w ⟨rfl, rfl⟩
  cases hx : idxK n l with
  | none =>
    rw [(idxK_getK_none hx).1, show atN n l = -1 by unfold atN; rw [hx]]
    (repeat with_reducible first|refine z_a ?_|refine z_b ?_|refine z_c ?_|refine z_d ?_|refine z_e ?_|refine z_f ?_|refine z_g ?_|refine z_h ?_|refine z_i ?_|refine z_j ?_|refine z_k ?_|refine z_l ?_|refine z_m (by omega) ?_|refine z_n (by omega) ?_|refine z_o (by omega) ?_|refine z_p (by omega) ?_|refine z_q (by omega) ?_|refine z_r (by omega) ?_|refine z_s (by omega) ?_|refine z_t (by omega) ?_|refine z_u (by omega) ?_|refine z_v (by omega) ?_|refine z_w (by omega) ?_|refine z_x (by omega) ?_|refine z_y (by omega) ?_|refine z_z (by omega) ?_|refine z_A ?_|refine z_B ?_|refine z_C ?_|refine z_D ?_|refine z_E ?_|refine z_F ?_|refine z_G ?_|refine z_H ?_|refine z_I ?_|refine z_J ?_|refine z_K (by omega) (by decide) ?_|refine z_L (by omega) (by decide) ?_|refine z_M (by omega) ?_|refine z_N (by omega) ?_|refine z_O (by omega) ?_|refine z_P ?_|refine z_Q ?_|refine z_R ?_|refine z_S ?_|refine z_T ?_|refine z_U (by decide) ?_|refine z_V (by decide) ?_)
    exact ⟨⟨rfl, h.re' fun k _ e => .inl e⟩, Turns.refl _ _⟩
  | some im =>
    obtain ⟨i, m⟩ := im
    obtain ⟨hi, e1, e2, e3⟩ := idxK_at hx
    rw [e3, show atN n l = (i : Int) by unfold atN; rw [hx]]
    obtain ⟨h0, rv, hb, ho, hF, hne⟩ := id h
    obtain ⟨g2, c2, rfl, _, hcell⟩ := sent_msg (OwnR.of_own ho) i hi
    have c0 : w.cell? ⟨g, 0, none⟩ = some (.slice (some ⟨g2, 0, none⟩) l.length c2) := hb.cell 0
    (repeat with_reducible first | refine fd n740 (by decide) ?_| refine ld one72 c0 ?_|refine z_a ?_|refine z_b ?_|refine z_c ?_|refine z_d ?_|refine z_e ?_|refine z_f ?_|refine z_g ?_|refine z_h ?_|refine z_i ?_|refine z_j ?_|refine z_k ?_|refine z_l ?_|refine z_m (by omega) ?_|refine z_n (by omega) ?_|refine z_o (by omega) ?_|refine z_p (by omega) ?_|refine z_q (by omega) ?_|refine z_r (by omega) ?_|refine z_s (by omega) ?_|refine z_t (by omega) ?_|refine z_u (by omega) ?_|refine z_v (by omega) ?_|refine z_w (by omega) ?_|refine z_x (by omega) ?_|refine z_y (by omega) ?_|refine z_z (by omega) ?_|refine z_A ?_|refine z_B ?_|refine z_C ?_|refine z_D ?_|refine z_E ?_|refine z_F ?_|refine z_G ?_|refine z_H ?_|refine z_I ?_|refine z_J ?_|refine z_K (by omega) (by decide) ?_|refine z_L (by omega) (by decide) ?_|refine z_M (by omega) ?_|refine z_N (by omega) ?_|refine z_O (by omega) ?_|refine z_P ?_|refine z_Q ?_|refine z_R ?_|refine z_S ?_|refine z_T ?_|refine z_U (by decide) ?_|refine z_V (by decide) ?_)
    refine ixG und72 sz79 i hi ?_
    refine fdG s791 (by decide) ?_
    refine ldR agg58 hcell (by rw [sz58]; rfl) ?_
    have hmem := List.getElem_mem hi
    have ho1 := hone _ hmem
    rw [e1] at ho1
    rw [show (l[i].2.L.cells l[i].2.p l[i].2.q).toList.toArray = m.L.cells m.p m.q by rw [e1]]
    refine (add65 h hl hlast m ho1.1 ho1.2).mono ?_
    rintro _ w3 ⟨rfl, h3, hT3⟩
    (repeat with_reducible first|refine z_a ?_|refine z_b ?_|refine z_c ?_|refine z_d ?_|refine z_e ?_|refine z_f ?_|refine z_g ?_|refine z_h ?_|refine z_i ?_|refine z_j ?_|refine z_k ?_|refine z_l ?_|refine z_m (by omega) ?_|refine z_n (by omega) ?_|refine z_o (by omega) ?_|refine z_p (by omega) ?_|refine z_q (by omega) ?_|refine z_r (by omega) ?_|refine z_s (by omega) ?_|refine z_t (by omega) ?_|refine z_u (by omega) ?_|refine z_v (by omega) ?_|refine z_w (by omega) ?_|refine z_x (by omega) ?_|refine z_y (by omega) ?_|refine z_z (by omega) ?_|refine z_A ?_|refine z_B ?_|refine z_C ?_|refine z_D ?_|refine z_E ?_|refine z_F ?_|refine z_G ?_|refine z_H ?_|refine z_I ?_|refine z_J ?_|refine z_K (by omega) (by decide) ?_|refine z_L (by omega) (by decide) ?_|refine z_M (by omega) ?_|refine z_N (by omega) ?_|refine z_O (by omega) ?_|refine z_P ?_|refine z_Q ?_|refine z_R ?_|refine z_S ?_|refine z_T ?_|refine z_U (by decide) ?_|refine z_V (by decide) ?_)
    exact ⟨⟨rfl, h3⟩, hT3⟩
end
end Go.Proofs.Ythicbfopjakiiaa.E
namespace Go.Proofs.Ythicbfopjakiiaa.E
open Go Go.RowKit
set_option linter.unusedSimpArgs false
set_option linter.unusedVariables false

theorem inf3 : (Try.prog.info? 3).map (fun i => (i.zero, i.size, i.bytes)) = some (some (.int .i64 0), 1, 8) := by kernel_rfl
section
variable {F : Nat → Prop} {w : World} {g last : Nat} {l : List (Int × Msg)}
theorem sentF_one {x : Int × Msg} (h : x.2.p.oneCell' = true ∧ x.2.q.oneCell' = true) : ∀ u ∈ sentF x, u.oneCell' = true := fun u hu => by
  simp only [sentF, Let.cells, List.mem_cons, List.not_mem_nil, or_false] at hu
  rcases hu with rfl | rfl | rfl | rfl | rfl | rfl | rfl | rfl | rfl | rfl | rfl | rfl | rfl | rfl | rfl <;> first | rfl | exact h.1 | exact h.2
theorem deliver38 (h : RefN F w g last l) (hl : l.length < 4096) (hone : ∀ x ∈ l, x.2.p.oneCell' = true ∧ x.2.q.oneCell' = true) (n : Int) :
    CallP Try.prog 38 #[.pointer (some ⟨g, 0, none⟩), .int .i64 n] (fun r w' => (match getK n l with
      | none => r = .tuple #[.agg (zeroLet.cells (.slice none 0 0) (.slice none 0 0)), .int .i64 7]
      | some m => r = .tuple #[m.val, .int .i64 0]) ∧ RefN (Ext F w.heap.size) w' g last (delK n l) ∧ Turns F w w') w := by
  refine ⟨S38.calls _ _ _ _ ?_⟩
  unfold S38
  refine alB z58 ?_
  intro g4 w1 hg4 hB1 hb1
  have h1 := h.below hb1
  refine (at41 h1 (by omega) n).mono ?_
  rintro _ w1 ⟨rfl, rfl⟩
  cases hx : idxK n l with
  | none =>
    rw [(idxK_getK_none hx).1, (idxK_getK_none hx).2, show atN n l = -1 by unfold atN; rw [hx]]
    (repeat with_reducible first|refine z_a ?_|refine z_b ?_|refine z_c ?_|refine z_d ?_|refine z_e ?_|refine z_f ?_|refine z_g ?_|refine z_h ?_|refine z_i ?_|refine z_j ?_|refine z_k ?_|refine z_l ?_|refine z_m (by omega) ?_|refine z_n (by omega) ?_|refine z_o (by omega) ?_|refine z_p (by omega) ?_|refine z_q (by omega) ?_|refine z_r (by omega) ?_|refine z_s (by omega) ?_|refine z_t (by omega) ?_|refine z_u (by omega) ?_|refine z_v (by omega) ?_|refine z_w (by omega) ?_|refine z_x (by omega) ?_|refine z_y (by omega) ?_|refine z_z (by omega) ?_|refine z_A ?_|refine z_B ?_|refine z_C ?_|refine z_D ?_|refine z_E ?_|refine z_F ?_|refine z_G ?_|refine z_H ?_|refine z_I ?_|refine z_J ?_|refine z_K (by omega) (by decide) ?_|refine z_L (by omega) (by decide) ?_|refine z_M (by omega) ?_|refine z_N (by omega) ?_|refine z_O (by omega) ?_|refine z_P ?_|refine z_Q ?_|refine z_R ?_|refine z_S ?_|refine z_T ?_|refine z_U (by decide) ?_|refine z_V (by decide) ?_)
    refine bd (cells := zeroLet.cells (.slice none 0 0) (.slice none 0 0)) (by kernel_rfl) ?_
    refine stB hB1 (by exact sz58) (by rfl) (cells_one _ _ _ rfl rfl) ?_
    intro w2 hB2 hT2
    have hb2 : Below w.heap.size w w2 := below_own hb1 hT2 (by omega)
    refine retA agg58 hB2 (by exact sz58) ?_
    exact ⟨rfl, (h.below hb2).re' fun k _ e => .inl e, Turns.of_below hb2⟩
  | some im =>
    obtain ⟨i, m⟩ := im
    obtain ⟨hi, e1, e2, e3⟩ := idxK_at hx
    rw [e3, e2, show atN n l = (i : Int) by unfold atN; rw [hx]]
    have hmem := List.getElem_mem hi
    have ho1 := hone _ hmem
    rw [e1] at ho1
    obtain ⟨h0, rv, hb, ho, hF, hne⟩ := h1
    have hR := OwnR.of_own ho
    obtain ⟨g2, c2, rfl, _, hcell⟩ := sent_msg hR i hi
    obtain ⟨_, c3, ec, hc3, hm3⟩ := hR.slice
    cases ec
    have c0 : w1.cell? ⟨g, 0, none⟩ = some (.slice (some ⟨g2, 0, none⟩) l.length c2) := hb.cell 0
    (repeat with_reducible first | refine fd n740 (by decide) ?_| refine ld one72 c0 ?_|refine z_a ?_|refine z_b ?_|refine z_c ?_|refine z_d ?_|refine z_e ?_|refine z_f ?_|refine z_g ?_|refine z_h ?_|refine z_i ?_|refine z_j ?_|refine z_k ?_|refine z_l ?_|refine z_m (by omega) ?_|refine z_n (by omega) ?_|refine z_o (by omega) ?_|refine z_p (by omega) ?_|refine z_q (by omega) ?_|refine z_r (by omega) ?_|refine z_s (by omega) ?_|refine z_t (by omega) ?_|refine z_u (by omega) ?_|refine z_v (by omega) ?_|refine z_w (by omega) ?_|refine z_x (by omega) ?_|refine z_y (by omega) ?_|refine z_z (by omega) ?_|refine z_A ?_|refine z_B ?_|refine z_C ?_|refine z_D ?_|refine z_E ?_|refine z_F ?_|refine z_G ?_|refine z_H ?_|refine z_I ?_|refine z_J ?_|refine z_K (by omega) (by decide) ?_|refine z_L (by omega) (by decide) ?_|refine z_M (by omega) ?_|refine z_N (by omega) ?_|refine z_O (by omega) ?_|refine z_P ?_|refine z_Q ?_|refine z_R ?_|refine z_S ?_|refine z_T ?_|refine z_U (by decide) ?_|refine z_V (by decide) ?_)
    refine ixG und72 sz79 i hi ?_
    refine fdG s791 (by decide) ?_
    refine ldR agg58 hcell (by rw [sz58]; rfl) ?_
    rw [show (l[i].2.L.cells l[i].2.p l[i].2.q).toList.toArray = m.L.cells m.p m.q by rw [e1]]
    refine newLet ho1.1 ho1.2 ?_
    intro w2 hL2 hb2
    have hgw := hb.lt
    have hb_2 := hb.below' hb2
    have ho_2 := ownsRow_turns ho (Turns.of_below (F := fun _ => False) hb2) (fun _ _ h => h)
    have hB2 := hB1.below' hb2
    have hb12 := below_then hb1 hb2
    have c0' : w2.cell? ⟨g, 0, none⟩ = some (.slice (some ⟨g2, 0, none⟩) l.length c2) := hb_2.cell 0
    (repeat with_reducible first | refine fd n740 (by decide) ?_| refine ld one72 c0' ?_|refine z_a ?_|refine z_b ?_|refine z_c ?_|refine z_d ?_|refine z_e ?_|refine z_f ?_|refine z_g ?_|refine z_h ?_|refine z_i ?_|refine z_j ?_|refine z_k ?_|refine z_l ?_|refine z_m (by omega) ?_|refine z_n (by omega) ?_|refine z_o (by omega) ?_|refine z_p (by omega) ?_|refine z_q (by omega) ?_|refine z_r (by omega) ?_|refine z_s (by omega) ?_|refine z_t (by omega) ?_|refine z_u (by omega) ?_|refine z_v (by omega) ?_|refine z_w (by omega) ?_|refine z_x (by omega) ?_|refine z_y (by omega) ?_|refine z_z (by omega) ?_|refine z_A ?_|refine z_B ?_|refine z_C ?_|refine z_D ?_|refine z_E ?_|refine z_F ?_|refine z_G ?_|refine z_H ?_|refine z_I ?_|refine z_J ?_|refine z_K (by omega) (by decide) ?_|refine z_L (by omega) (by decide) ?_|refine z_M (by omega) ?_|refine z_N (by omega) ?_|refine z_O (by omega) ?_|refine z_P ?_|refine z_Q ?_|refine z_R ?_|refine z_S ?_|refine z_T ?_|refine z_U (by decide) ?_|refine z_V (by decide) ?_)
    refine ofPR (pr_cut und72 sz79 .no (.at _ _) .no (Nat.zero_le _) (fun h => by cases h) (by omega) (Nat.le_refl _) (.inl rfl)) ?_
    have hs1 := hb1.size
    have hs2 := hb2.size
    refine apRm w2.heap.size und72 inf79 (by rfl) (by decide) (v := .slice none 0 0) (xs := []) (n := 0) ⟨by simp, .inl ⟨rfl, rfl⟩⟩ (Fresh.nil _) (Nat.le_refl _) sentF_len (fun x hx => sentF_one (hone x (List.mem_of_mem_take hx))) (OwnR.cutTo sentF_len (by omega) (OwnR.of_own ho_2) i (by omega)) (by rw [List.length_take]; omega) (by rw [List.length_take]; omega) ?_
    intro v3 w3 ho3 hf3 hb3
    have hb_3 := hb_2.below' hb3
    have ho_3 := ownsRow_turns ho_2 (Turns.of_below (F := fun _ => False) hb3) (fun _ _ h => h)
    have hL3 := hL2.below' hb3
    have hB3 := hB2.below' hb3
    have hb13 := below_then hb12 hb3
    have hs3 := hb3.size
    have c03 : w3.cell? ⟨g, 0, none⟩ = some (.slice (some ⟨g2, 0, none⟩) l.length c2) := hb_3.cell 0
    (repeat with_reducible first | refine fd n740 (by decide) ?_| refine ld one72 c03 ?_|refine z_a ?_|refine z_b ?_|refine z_c ?_|refine z_d ?_|refine z_e ?_|refine z_f ?_|refine z_g ?_|refine z_h ?_|refine z_i ?_|refine z_j ?_|refine z_k ?_|refine z_l ?_|refine z_m (by omega) ?_|refine z_n (by omega) ?_|refine z_o (by omega) ?_|refine z_p (by omega) ?_|refine z_q (by omega) ?_|refine z_r (by omega) ?_|refine z_s (by omega) ?_|refine z_t (by omega) ?_|refine z_u (by omega) ?_|refine z_v (by omega) ?_|refine z_w (by omega) ?_|refine z_x (by omega) ?_|refine z_y (by omega) ?_|refine z_z (by omega) ?_|refine z_A ?_|refine z_B ?_|refine z_C ?_|refine z_D ?_|refine z_E ?_|refine z_F ?_|refine z_G ?_|refine z_H ?_|refine z_I ?_|refine z_J ?_|refine z_K (by omega) (by decide) ?_|refine z_L (by omega) (by decide) ?_|refine z_M (by omega) ?_|refine z_N (by omega) ?_|refine z_O (by omega) ?_|refine z_P ?_|refine z_Q ?_|refine z_R ?_|refine z_S ?_|refine z_T ?_|refine z_U (by decide) ?_|refine z_V (by decide) ?_)
    rw [show (i : Int) + 1 = ((i + 1 : Nat) : Int) by omega]
    refine ofPR (pr_cut und72 sz79 (.at _ _) .no .no (by omega) (fun h => by omega) (by omega) (Nat.le_refl _) (.inl rfl)) ?_
    refine apRm w2.heap.size und72 inf79 (by rfl) (by decide) ho3 hf3 hs3 sentF_len (fun x hx => sentF_one (hone x (List.mem_of_mem_drop hx))) (OwnR.cutFrom sentF_len (by omega) (OwnR.of_own ho_3) (i + 1) (by omega)) (by rw [List.length_take, List.length_drop]; omega) (by rw [List.length_take, List.length_drop]; omega) ?_
    intro v4 w4 ho4 hf4 hb4
    have hb_4 := hb_3.below hb4 (Nat.lt_of_lt_of_le hgw hs2)
    have hL4 := hL3.below hb4 hL2.lt
    have hB4 := hB3.below hb4 (Nat.lt_of_lt_of_le hB1.lt hs2)
    have hb24 := hb3.trans hb4
    have hb14 := below_then hb12 hb24
    have hv4 : ∀ k, v4.ownBlock = some k → w2.heap.size ≤ k := fun k hk => hf4 k hk
    (repeat with_reducible first | refine fd n740 (by decide) ?_|refine z_a ?_|refine z_b ?_|refine z_c ?_|refine z_d ?_|refine z_e ?_|refine z_f ?_|refine z_g ?_|refine z_h ?_|refine z_i ?_|refine z_j ?_|refine z_k ?_|refine z_l ?_|refine z_m (by omega) ?_|refine z_n (by omega) ?_|refine z_o (by omega) ?_|refine z_p (by omega) ?_|refine z_q (by omega) ?_|refine z_r (by omega) ?_|refine z_s (by omega) ?_|refine z_t (by omega) ?_|refine z_u (by omega) ?_|refine z_v (by omega) ?_|refine z_w (by omega) ?_|refine z_x (by omega) ?_|refine z_y (by omega) ?_|refine z_z (by omega) ?_|refine z_A ?_|refine z_B ?_|refine z_C ?_|refine z_D ?_|refine z_E ?_|refine z_F ?_|refine z_G ?_|refine z_H ?_|refine z_I ?_|refine z_J ?_|refine z_K (by omega) (by decide) ?_|refine z_L (by omega) (by decide) ?_|refine z_M (by omega) ?_|refine z_N (by omega) ?_|refine z_O (by omega) ?_|refine z_P ?_|refine z_Q ?_|refine z_R ?_|refine z_S ?_|refine z_T ?_|refine z_U (by decide) ?_|refine z_V (by decide) ?_)
    refine st sz72 (by rcases ho4.2 with ⟨e, _⟩ | ⟨_, _, _, e, _⟩ <;> rw [e] <;> rfl) (by rw [hb_4.cell 0]; rfl) (hb_4.frozen 0) ?_
    have hb5 := hb_4.set_ 0 v4
    have hT5 : Turns (fun j => j = g) w4 (w4.setCell ⟨g, 0, none⟩ v4) := Turns.setCell (F := fun j => j = g) (p := ⟨g, 0, none⟩) (Turns.refl _ w4) (.inl rfl) _
    have hvne : v4.ownBlock ≠ some g := fun e => by have := hv4 g e; omega
    have ho5 := ownsRow_turns ho4 hT5 (fun k hk e => hvne (by rw [hk, e]))
    have h0' := h.1
    have hglt : g < w.heap.size := by obtain ⟨_, _, hbb, _⟩ := h; exact hbb.lt
    have hL5 := hL4.turns hT5 (by omega)
    have hB5 := hB4.turns hT5 (by omega)
    have hTF5 : Turns F w (w4.setCell ⟨g, 0, none⟩ v4) := (Turns.of_below hb14).trans (hT5.mono fun k _ e => .inl (by rw [e]; exact h0'))
    generalize w4.setCell ⟨g, 0, none⟩ v4 = w5 at *
    refine ldA agg58 hL5 (by exact sz58) ?_
    refine stB hB5 (by exact sz58) (by rfl) (cells_one _ _ _ ho1.1 ho1.2) ?_
    intro w6 hB6 hT6
    have hb6 := hb5.turns hT6 (by omega)
    have ho6 := ownsRow_turns ho5 hT6 (fun k hk e => by have := hv4 k hk; have := hB1.lt; omega)
    refine retA agg58 hB6 (by exact sz58) ?_
    refine ⟨rfl, ⟨.inl h0', v4, hb6, ?_, fun k hk => .inr (by have := hv4 k hk; have := hb12.size; omega), hvne⟩, hTF5.trans (hT6.mono fun k _ e => .inr (by omega))⟩
    have el : 0 + (l.take i).length + (l.drop (i + 1)).length = (l.take i ++ l.drop (i + 1)).length := by rw [List.length_append]; omega
    rw [el, List.nil_append, ← List.flatMap_append] at ho6
    exact ho6
theorem under44 (h : RefN F w g last l) (hl : l.length < 4096) : CallP Try.prog 44 #[.pointer (some ⟨g, 0, none⟩)] (fun r w' => Own 3 w' r ((l.map (·.1)).map (Value.int .i64)) ∧ Below w.heap.size w w') w := by
  obtain ⟨h0, rv, hb, ho, hF, hne⟩ := h
  have hR := OwnR.of_own ho
  obtain ⟨A, c, rfl, hc, hm⟩ := hR.slice
  refine ⟨S44.calls _ _ _ ?_⟩
  unfold S44
  refine LoopP.inv2 (fun o iv w' => ∃ k : Nat, k ≤ l.length ∧ iv = .int .i64 k ∧ Own 3 w' o (((l.take k).map (·.1)).map (Value.int .i64)) ∧ Fresh w.heap.size o ∧ Below w.heap.size w w') (fun _ iv _ => l.length - (intOf iv).toNat) ⟨0, by omega, rfl, Own.nil 3 w, Fresh.nil _, Below.refl _ _⟩ ?_
  rintro o _ w1 ⟨k, hk, rfl, ho1, hf1, hb1⟩ J hJ
  dsimp only [List.headD_cons, List.tail_cons]
  have hb_1 := hb.below' hb1
  have c0 : w1.cell? ⟨g, 0, none⟩ = some (.slice A l.length c) := hb_1.cell 0
  (repeat with_reducible first | refine fd n740 (by decide) ?_| refine ld one72 c0 ?_|refine z_a ?_|refine z_b ?_|refine z_c ?_|refine z_d ?_|refine z_e ?_|refine z_f ?_|refine z_g ?_|refine z_h ?_|refine z_i ?_|refine z_j ?_|refine z_k ?_|refine z_l ?_|refine z_m (by omega) ?_|refine z_n (by omega) ?_|refine z_o (by omega) ?_|refine z_p (by omega) ?_|refine z_q (by omega) ?_|refine z_r (by omega) ?_|refine z_s (by omega) ?_|refine z_t (by omega) ?_|refine z_u (by omega) ?_|refine z_v (by omega) ?_|refine z_w (by omega) ?_|refine z_x (by omega) ?_|refine z_y (by omega) ?_|refine z_z (by omega) ?_|refine z_A ?_|refine z_B ?_|refine z_C ?_|refine z_D ?_|refine z_E ?_|refine z_F ?_|refine z_G ?_|refine z_H ?_|refine z_I ?_|refine z_J ?_|refine z_K (by omega) (by decide) ?_|refine z_L (by omega) (by decide) ?_|refine z_M (by omega) ?_|refine z_N (by omega) ?_|refine z_O (by omega) ?_|refine z_P ?_|refine z_Q ?_|refine z_R ?_|refine z_S ?_|refine z_T ?_|refine z_U (by decide) ?_|refine z_V (by decide) ?_)
  refine ln und72 ?_
  refine bi_lss_c (fun h => ?_) (fun h => ?_)
  · have hk' : k < l.length := by omega
    obtain ⟨g2, c2, he, ck, _⟩ := sent_msg (hR.below hb1) k hk'
    cases he
    (repeat with_reducible first | refine fd n740 (by decide) ?_| refine ld one72 c0 ?_|refine z_a ?_|refine z_b ?_|refine z_c ?_|refine z_d ?_|refine z_e ?_|refine z_f ?_|refine z_g ?_|refine z_h ?_|refine z_i ?_|refine z_j ?_|refine z_k ?_|refine z_l ?_|refine z_m (by omega) ?_|refine z_n (by omega) ?_|refine z_o (by omega) ?_|refine z_p (by omega) ?_|refine z_q (by omega) ?_|refine z_r (by omega) ?_|refine z_s (by omega) ?_|refine z_t (by omega) ?_|refine z_u (by omega) ?_|refine z_v (by omega) ?_|refine z_w (by omega) ?_|refine z_x (by omega) ?_|refine z_y (by omega) ?_|refine z_z (by omega) ?_|refine z_A ?_|refine z_B ?_|refine z_C ?_|refine z_D ?_|refine z_E ?_|refine z_F ?_|refine z_G ?_|refine z_H ?_|refine z_I ?_|refine z_J ?_|refine z_K (by omega) (by decide) ?_|refine z_L (by omega) (by decide) ?_|refine z_M (by omega) ?_|refine z_N (by omega) ?_|refine z_O (by omega) ?_|refine z_P ?_|refine z_Q ?_|refine z_R ?_|refine z_S ?_|refine z_T ?_|refine z_U (by decide) ?_|refine z_V (by decide) ?_)
    refine ixG und72 sz79 k hk' ?_
    refine fdG s790 (by decide) ?_
    (repeat with_reducible first | refine ld one3 ck ?_|refine z_a ?_|refine z_b ?_|refine z_c ?_|refine z_d ?_|refine z_e ?_|refine z_f ?_|refine z_g ?_|refine z_h ?_|refine z_i ?_|refine z_j ?_|refine z_k ?_|refine z_l ?_|refine z_m (by omega) ?_|refine z_n (by omega) ?_|refine z_o (by omega) ?_|refine z_p (by omega) ?_|refine z_q (by omega) ?_|refine z_r (by omega) ?_|refine z_s (by omega) ?_|refine z_t (by omega) ?_|refine z_u (by omega) ?_|refine z_v (by omega) ?_|refine z_w (by omega) ?_|refine z_x (by omega) ?_|refine z_y (by omega) ?_|refine z_z (by omega) ?_|refine z_A ?_|refine z_B ?_|refine z_C ?_|refine z_D ?_|refine z_E ?_|refine z_F ?_|refine z_G ?_|refine z_H ?_|refine z_I ?_|refine z_J ?_|refine z_K (by omega) (by decide) ?_|refine z_L (by omega) (by decide) ?_|refine z_M (by omega) ?_|refine z_N (by omega) ?_|refine z_O (by omega) ?_|refine z_P ?_|refine z_Q ?_|refine z_R ?_|refine z_S ?_|refine z_T ?_|refine z_U (by decide) ?_|refine z_V (by decide) ?_)
    refine lift (v := .slice (some ⟨w1.heap.size, 0, none⟩) 1 1) (w' := w1.alloc (.cells #[.int .i64 l[k].1] 3)) (by kernel_rfl) ?_
    have hal := (Below.refl w1.heap.size w1).alloc (Nat.le_refl _) (.cells #[.int .i64 l[k].1] 3)
    refine apF w.heap.size und81 inf3 (by rfl) (by decide) (ho1.below hal) hf1 (below_then hb1 hal).size (Own.new w1 3 [.int .i64 l[k].1] (by simp)).rd (by simp [Value.oneCell']) (by simp only [List.length_map, List.length_take, List.length_cons, List.length_nil]; omega) ?_
    intro v2 w2 ho2 hf2 hb2 _
    (repeat with_reducible first|refine z_a ?_|refine z_b ?_|refine z_c ?_|refine z_d ?_|refine z_e ?_|refine z_f ?_|refine z_g ?_|refine z_h ?_|refine z_i ?_|refine z_j ?_|refine z_k ?_|refine z_l ?_|refine z_m (by omega) ?_|refine z_n (by omega) ?_|refine z_o (by omega) ?_|refine z_p (by omega) ?_|refine z_q (by omega) ?_|refine z_r (by omega) ?_|refine z_s (by omega) ?_|refine z_t (by omega) ?_|refine z_u (by omega) ?_|refine z_v (by omega) ?_|refine z_w (by omega) ?_|refine z_x (by omega) ?_|refine z_y (by omega) ?_|refine z_z (by omega) ?_|refine z_A ?_|refine z_B ?_|refine z_C ?_|refine z_D ?_|refine z_E ?_|refine z_F ?_|refine z_G ?_|refine z_H ?_|refine z_I ?_|refine z_J ?_|refine z_K (by omega) (by decide) ?_|refine z_L (by omega) (by decide) ?_|refine z_M (by omega) ?_|refine z_N (by omega) ?_|refine z_O (by omega) ?_|refine z_P ?_|refine z_Q ?_|refine z_R ?_|refine z_S ?_|refine z_T ?_|refine z_U (by decide) ?_|refine z_V (by decide) ?_)
    refine hJ _ _ _ ⟨k + 1, by omega, by simp, ?_, hf2, (below_then hb1 hal).trans hb2⟩ (by simp [intOf]; omega)
    rw [List.take_succ_eq_append_getElem hk', List.map_append, List.map_append]
    exact ho2
  · have hkl : k = l.length := by omega
    subst hkl
    rw [List.take_length] at ho1
    (repeat with_reducible first|refine z_a ?_|refine z_b ?_|refine z_c ?_|refine z_d ?_|refine z_e ?_|refine z_f ?_|refine z_g ?_|refine z_h ?_|refine z_i ?_|refine z_j ?_|refine z_k ?_|refine z_l ?_|refine z_m (by omega) ?_|refine z_n (by omega) ?_|refine z_o (by omega) ?_|refine z_p (by omega) ?_|refine z_q (by omega) ?_|refine z_r (by omega) ?_|refine z_s (by omega) ?_|refine z_t (by omega) ?_|refine z_u (by omega) ?_|refine z_v (by omega) ?_|refine z_w (by omega) ?_|refine z_x (by omega) ?_|refine z_y (by omega) ?_|refine z_z (by omega) ?_|refine z_A ?_|refine z_B ?_|refine z_C ?_|refine z_D ?_|refine z_E ?_|refine z_F ?_|refine z_G ?_|refine z_H ?_|refine z_I ?_|refine z_J ?_|refine z_K (by omega) (by decide) ?_|refine z_L (by omega) (by decide) ?_|refine z_M (by omega) ?_|refine z_N (by omega) ?_|refine z_O (by omega) ?_|refine z_P ?_|refine z_Q ?_|refine z_R ?_|refine z_S ?_|refine z_T ?_|refine z_U (by decide) ?_|refine z_V (by decide) ?_)
    exact ⟨ho1, hb1⟩
end
theorem sameInts42 (v u : Value) (xs : List Int) (w : World) (hv : Rd w v (xs.map (Value.int .i64))) (hu : Rd w u (xs.map (Value.int .i64))) : CallP Try.prog 42 #[v, u] (fun r w' => r = .bool true ∧ Below w.heap.size w w') w := by
  obtain ⟨A, c, rfl, hc, hm⟩ := hv.slice
  obtain ⟨A', c', rfl, _, _⟩ := hu.slice
  rw [List.length_map] at hv hu hc ⊢
  refine ⟨S42.calls _ _ _ _ ?_⟩
  unfold S42
  refine ln und81 ?_
  refine ln und81 ?_
  (repeat with_reducible first|refine z_a ?_|refine z_b ?_|refine z_c ?_|refine z_d ?_|refine z_e ?_|refine z_f ?_|refine z_g ?_|refine z_h ?_|refine z_i ?_|refine z_j ?_|refine z_k ?_|refine z_l ?_|refine z_m (by omega) ?_|refine z_n (by omega) ?_|refine z_o (by omega) ?_|refine z_p (by omega) ?_|refine z_q (by omega) ?_|refine z_r (by omega) ?_|refine z_s (by omega) ?_|refine z_t (by omega) ?_|refine z_u (by omega) ?_|refine z_v (by omega) ?_|refine z_w (by omega) ?_|refine z_x (by omega) ?_|refine z_y (by omega) ?_|refine z_z (by omega) ?_|refine z_A ?_|refine z_B ?_|refine z_C ?_|refine z_D ?_|refine z_E ?_|refine z_F ?_|refine z_G ?_|refine z_H ?_|refine z_I ?_|refine z_J ?_|refine z_K (by omega) (by decide) ?_|refine z_L (by omega) (by decide) ?_|refine z_M (by omega) ?_|refine z_N (by omega) ?_|refine z_O (by omega) ?_|refine z_P ?_|refine z_Q ?_|refine z_R ?_|refine z_S ?_|refine z_T ?_|refine z_U (by decide) ?_|refine z_V (by decide) ?_)
  refine LoopP.inv1 (fun iv w' => ∃ k : Nat, k ≤ xs.length ∧ iv = .int .i64 k ∧ Below w.heap.size w w') (fun iv _ => xs.length - (intOf iv).toNat) ⟨0, by omega, rfl, Below.refl _ _⟩ ?_
  rintro _ w1 ⟨k, hk, rfl, hb1⟩ J hJ
  dsimp only [List.headD_cons, List.tail_cons]
  refine ln und81 ?_
  refine bi_lss_c (fun h => ?_) (fun h => ?_)
  · have hk' : k < xs.length := by omega
    have hdr : Below w1.heap.size w1 w1.drew := (Below.refl _ _).drew
    obtain ⟨a, rfl, hca⟩ := Rd.atI (hv.below hb1) k hk'
    obtain ⟨a', rfl, hca'⟩ := Rd.atI (hu.below hb1) k hk'
    have k1 : ∀ w', Below w1.heap.size w1 w' → w'.cell? (a.add k) = some (.int .i64 xs[k]) := fun w' hb => by rw [hb.cell (World.block_lt_of_cell? _ _ hca), hca]
    have k2 : ∀ w', Below w1.heap.size w1 w' → w'.cell? (a'.add k) = some (.int .i64 xs[k]) := fun w' hb => by rw [hb.cell (World.block_lt_of_cell? _ _ hca'), hca']
    (repeat with_reducible first|refine z_a ?_|refine z_b ?_|refine z_c ?_|refine z_d ?_|refine z_e ?_|refine z_f ?_|refine z_g ?_|refine z_h ?_|refine z_i ?_|refine z_j ?_|refine z_k ?_|refine z_l ?_|refine z_m (by omega) ?_|refine z_n (by omega) ?_|refine z_o (by omega) ?_|refine z_p (by omega) ?_|refine z_q (by omega) ?_|refine z_r (by omega) ?_|refine z_s (by omega) ?_|refine z_t (by omega) ?_|refine z_u (by omega) ?_|refine z_v (by omega) ?_|refine z_w (by omega) ?_|refine z_x (by omega) ?_|refine z_y (by omega) ?_|refine z_z (by omega) ?_|refine z_A ?_|refine z_B ?_|refine z_C ?_|refine z_D ?_|refine z_E ?_|refine z_F ?_|refine z_G ?_|refine z_H ?_|refine z_I ?_|refine z_J ?_|refine z_K (by omega) (by decide) ?_|refine z_L (by omega) (by decide) ?_|refine z_M (by omega) ?_|refine z_N (by omega) ?_|refine z_O (by omega) ?_|refine z_P ?_|refine z_Q ?_|refine z_R ?_|refine z_S ?_|refine z_T ?_|refine z_U (by decide) ?_|refine z_V (by decide) ?_)
    refine draw (Below w1.heap.size w1) hdr ?_
    refine yix1 und81 sz3 k hk' ?_
    refine yl1 one3 k1 ?_
    refine yix1 und81 sz3 k hk' ?_
    refine yl1 one3 k2 ?_
    (repeat with_reducible first|refine z_W ?_|refine z_a ?_|refine z_b ?_|refine z_c ?_|refine z_d ?_|refine z_e ?_|refine z_f ?_|refine z_g ?_|refine z_h ?_|refine z_i ?_|refine z_j ?_|refine z_k ?_|refine z_l ?_|refine z_X (by omega) ?_|refine z_Y (by omega) ?_|refine z_Z (by omega) ?_|refine z_a1 (by omega) ?_|refine z_b1 (by omega) ?_|refine z_c1 (by omega) ?_|refine z_d1 (by omega) ?_|refine z_e1 (by omega) ?_|refine z_f1 (by omega) ?_|refine z_g1 (by omega) ?_|refine z_h1 (by omega) ?_|refine z_i1 (by omega) ?_|refine z_j1 (by omega) ?_|refine z_k1 (by omega) ?_|refine z_l1 ?_|refine z_m1 ?_|refine z_n1 ?_|refine z_o1 ?_|refine z_p1 ?_|refine z_q1 ?_|refine z_r1 ?_|refine z_s1 ?_|refine z_t1 ?_|refine z_u1 ?_|refine z_v1 (by omega) (by decide) ?_|refine z_w1 (by omega) (by decide) ?_|refine z_x1 (by omega) ?_|refine z_y1 (by omega) ?_|refine z_z1 (by omega) ?_|refine z_A1 ?_|refine z_B1 ?_|refine z_C1 ?_|refine z_D1 ?_|refine z_E1 ?_|refine z_F1 (by decide) ?_|refine z_G1 (by decide) ?_)
    (repeat with_reducible first|refine z_a ?_|refine z_b ?_|refine z_c ?_|refine z_d ?_|refine z_e ?_|refine z_f ?_|refine z_g ?_|refine z_h ?_|refine z_i ?_|refine z_j ?_|refine z_k ?_|refine z_l ?_|refine z_m (by omega) ?_|refine z_n (by omega) ?_|refine z_o (by omega) ?_|refine z_p (by omega) ?_|refine z_q (by omega) ?_|refine z_r (by omega) ?_|refine z_s (by omega) ?_|refine z_t (by omega) ?_|refine z_u (by omega) ?_|refine z_v (by omega) ?_|refine z_w (by omega) ?_|refine z_x (by omega) ?_|refine z_y (by omega) ?_|refine z_z (by omega) ?_|refine z_A ?_|refine z_B ?_|refine z_C ?_|refine z_D ?_|refine z_E ?_|refine z_F ?_|refine z_G ?_|refine z_H ?_|refine z_I ?_|refine z_J ?_|refine z_K (by omega) (by decide) ?_|refine z_L (by omega) (by decide) ?_|refine z_M (by omega) ?_|refine z_N (by omega) ?_|refine z_O (by omega) ?_|refine z_P ?_|refine z_Q ?_|refine z_R ?_|refine z_S ?_|refine z_T ?_|refine z_U (by decide) ?_|refine z_V (by decide) ?_)
    exact hJ _ _ ⟨k + 1, by omega, by simp, below_then hb1 hdr⟩ (by simp [intOf]; omega)
  · (repeat with_reducible first|refine z_a ?_|refine z_b ?_|refine z_c ?_|refine z_d ?_|refine z_e ?_|refine z_f ?_|refine z_g ?_|refine z_h ?_|refine z_i ?_|refine z_j ?_|refine z_k ?_|refine z_l ?_|refine z_m (by omega) ?_|refine z_n (by omega) ?_|refine z_o (by omega) ?_|refine z_p (by omega) ?_|refine z_q (by omega) ?_|refine z_r (by omega) ?_|refine z_s (by omega) ?_|refine z_t (by omega) ?_|refine z_u (by omega) ?_|refine z_v (by omega) ?_|refine z_w (by omega) ?_|refine z_x (by omega) ?_|refine z_y (by omega) ?_|refine z_z (by omega) ?_|refine z_A ?_|refine z_B ?_|refine z_C ?_|refine z_D ?_|refine z_E ?_|refine z_F ?_|refine z_G ?_|refine z_H ?_|refine z_I ?_|refine z_J ?_|refine z_K (by omega) (by decide) ?_|refine z_L (by omega) (by decide) ?_|refine z_M (by omega) ?_|refine z_N (by omega) ?_|refine z_O (by omega) ?_|refine z_P ?_|refine z_Q ?_|refine z_R ?_|refine z_S ?_|refine z_T ?_|refine z_U (by decide) ?_|refine z_V (by decide) ?_)
    exact ⟨rfl, hb1⟩
end Go.Proofs.Ythicbfopjakiiaa.E
namespace Go.Proofs.Ythicbfopjakiiaa.E
open Go Go.RowKit
set_option linter.unusedSimpArgs false
set_option linter.unusedVariables false

theorem delK_subl {α : Type} (k : Int) : ∀ l : List (Int × α), List.Sublist (delK k l) l
  | [] => List.Sublist.slnil
  | (a, u) :: r => by
    rw [delK]
    split
    · exact List.sublist_cons_self _ _
    · exact (delK_subl k r).cons_cons _
theorem mergeSort_up : ∀ {l : List Int}, l.Pairwise (· < ·) → l.mergeSort leI = l := fun {l} h =>
  List.mergeSort_of_pairwise (h.imp fun h => by simp only [leI, decide_eq_true_eq]; omega)
/-- A net: its own colours (NetC) lie all in one. -/
def netP (hu g last : Nat) (l : List (Int × Msg)) (hp : 0 < hu) : Thg where
  hu := hu
  ok := fun c w => ∃ cn : Nat → Nat, (∀ k, k < w.heap.size → cn k ≠ 0 → c k = hu) ∧ NetC cn w g last l
  pos := hp
  turns := fun {c w w' G} h hT hG => by
    obtain ⟨cn, h1, h2⟩ := h
    refine ⟨col cn w.heap.size 0, fun k hk hne => ?_, (h2.re (col_lt cn _ 0)).turns hT.cut fun k hk => ?_⟩
    · rcases Nat.lt_or_ge k w.heap.size with hlt | hge
      · rw [col_lt _ _ _ k hlt] at hne
        exact h1 k hlt hne
      · rw [col_ge _ _ _ hge] at hne
        exact absurd rfl hne
    · rw [col_lt _ _ _ k hk.2]
      exact Classical.byContradiction fun hne => hG k hk.1 (h1 k hk.2 hne)
  re := fun {c c' w} h hc => by
    obtain ⟨cn, h1, h2⟩ := h
    exact ⟨cn, fun k hk hne => (hc k hk).trans (h1 k hk hne), h2⟩
/-- A letter that was taken out of a net, in the net's colour. -/
def msgO (hu : Nat) (m : Msg) (hp : 0 < hu) : Thg where
  hu := hu
  ok := fun c w => OwnS 2 64 w m.p m.ps.length (m.ps.flatMap pairF) ∧ OwnS 3 68 w m.q m.is.length (m.is.flatMap intentF) ∧ InC c hu m.p ∧ InC c hu m.q
  pos := hp
  turns := fun h hT hG => ⟨h.1.turns hT fun k hk e => hG k e (h.2.2.1 k hk), h.2.1.turns hT fun k hk e => hG k e (h.2.2.2 k hk), h.2.2.1, h.2.2.2⟩
  re := fun h hc => ⟨h.1, h.2.1, h.2.2.1.re (fun b hb => h.1.lt hb) hc, h.2.2.2.re (fun b hb => h.2.1.lt hb) hc⟩
section
variable {w0 w w' : World} {L A B : List Thg} {o : Thg} {hu g last : Nat} {l : List (Int × Msg)} {hp : 0 < hu}
/-- A call on one of them that leaves a thing more of its colour. -/
theorem Mem.call2 (h : Mem w0 w (A ++ o :: B)) (hd : ∀ x ∈ A ++ B, x.hu ≠ o.hu) : ∃ c, (∀ k, k < w0.heap.size → c k = 0) ∧ o.ok c w ∧ ∀ (o' : Thg) (M : List Thg) (w' : World), (∃ c' : Nat → Nat, (∀ k, k < w.heap.size → c' k = c k) ∧ o'.ok c' w' ∧ (∀ x ∈ M, x.ok c' w') ∧ Turns (fun k => c k = o.hu) w w') → Mem w0 w' (A ++ o' :: B ++ M) := by
  obtain ⟨c, h1, h2, h3⟩ := h
  have ho := h2 o (by simp)
  have hp := o.pos
  refine ⟨c, h1, ho, fun o' M w' ⟨c', hc, hS, hM, hT⟩ => ⟨c', fun k hk => (hc k (Nat.lt_of_lt_of_le hk h3.size)).trans (h1 k hk), fun x hx => ?_, h3.trans (hT.below h3.size fun k hk e => ?_)⟩⟩
  · have keep : x ∈ A ++ B → x.ok c' w' := fun hx => by
      refine x.turns (x.re (h2 x ?_) hc) hT.cut fun k hk => ?_
      · rcases List.mem_append.1 hx with h | h
        · simp [h]
        · simp [h]
      · rw [hc k hk.2, show c k = o.hu from hk.1]
        exact fun e => hd x hx e.symm
    rcases List.mem_append.1 hx with h | h
    · rcases List.mem_append.1 h with h | h
      · exact keep (List.mem_append.2 (.inl h))
      · rcases List.mem_cons.1 h with rfl | h
        · exact hS
        · exact keep (List.mem_append.2 (.inr h))
    · exact hM x h
  · rw [h1 k hk] at e
    omega
theorem Mem.addBlk (h : Mem w0 w L) {n t : Nat} {gv : Nat} {cs : Array Value} (hn : 0 < n) (hb : Blk w' gv t cs) (hg : w.heap.size ≤ gv) (hw : Below w.heap.size w w') : Mem w0 w' (L ++ [blkO n gv t cs hn]) := by
  obtain ⟨c, back⟩ := h.make
  exact back _ w' ⟨col c w.heap.size n, col_lt _ _ _, ⟨col_ge _ _ _ hg, hb⟩, hw⟩
theorem Mem.blkOf {n t gv : Nat} {cs : Array Value} {hn : 0 < n} (h : Mem w0 w L) (hm : blkO n gv t cs hn ∈ L) : Blk w gv t cs := by
  obtain ⟨c, hc⟩ := h.look hm
  exact hc.2
theorem Mem.netB (h : Mem w0 w (A ++ netP hu g last l hp :: B)) (hd : ∀ x ∈ A ++ B, x.hu ≠ hu) : ∃ cn, (∀ k, k < w0.heap.size → cn k = 0) ∧ NetC cn w g last l ∧ ∀ (last' : Nat) (l' : List (Int × Msg)) (w' : World), LeftN cn w g last' l' w' → Mem w0 w' (A ++ netP hu g last' l' hp :: B) := by
  have hbel := h.bel
  obtain ⟨c, h0, ⟨cn, h1, h2⟩, back⟩ := h.call2 hd
  refine ⟨cn, fun k hk => Classical.byContradiction fun hne => ?_, h2, fun last' l' w' ⟨c2, e1, e2, hT⟩ => ?_⟩
  · have := h1 k (Nat.lt_of_lt_of_le hk hbel.size) hne
    rw [h0 k hk] at this; omega
  · have := back (netP hu g last' l' hp) [] w' ⟨col c w.heap.size hu, col_lt _ _ _, ⟨c2, fun k hk hne => ?_, e2⟩, by simp, ?_⟩
    · rwa [List.append_nil] at this
    · rcases Nat.lt_or_ge k w.heap.size with hlt | hge
      · rw [col_lt _ _ _ k hlt]
        rw [e1 k hlt] at hne
        exact h1 k hlt hne
      · exact col_ge _ _ _ hge
    · exact hT.mono fun k hk e => h1 k hk e
/-- A letter is taken out. -/
theorem Mem.deliver (h : Mem w0 w (A ++ netP hu g last l hp :: B)) (hd : ∀ x ∈ A ++ B, x.hu ≠ hu) (n : Int) : CallP Try.prog 33 #[.pointer (some ⟨g, 0, none⟩), .int .i64 n] (fun r w' => match getK n l with
      | none => r = .tuple #[.agg (zeroLet.cells (.slice none 0 0) (.slice none 0 0)), .int .i64 7] ∧ Mem w0 w' (A ++ netP hu g last l hp :: B)
      | some m => r = .tuple #[m.val, .int .i64 0] ∧ (∀ p ∈ m.ps, pairOk p) ∧ (∀ i ∈ m.is, intentOk i) ∧ m.p.oneCell' = true ∧ m.q.oneCell' = true ∧ Mem w0 w' (A ++ netP hu g last (delK n l) hp :: B ++ [msgO hu m hp])) w := by
  have hbel := h.bel
  obtain ⟨c, h0, ⟨cn, h1, h2⟩, back⟩ := h.call2 hd
  refine (Deliver_net cn w g last l n h2).mono ?_
  intro r w' hr
  have hcn : ∀ k, cn k ≠ 0 → col c w.heap.size hu k = hu := fun k hne => by
    rcases Nat.lt_or_ge k w.heap.size with hlt | hge
    · rw [col_lt _ _ _ k hlt]; exact h1 k hlt hne
    · exact col_ge _ _ _ hge
  cases hx : getK n l with
  | none =>
    rw [hx] at hr
    obtain ⟨e, c2, e1, e2, hT⟩ := hr
    refine ⟨e, ?_⟩
    have := back (netP hu g last l hp) [] w' ⟨col c w.heap.size hu, col_lt _ _ _, ⟨c2, fun k hk hne => ?_, e2⟩, by simp, hT.mono fun k hk e => h1 k hk e⟩
    · rwa [List.append_nil] at this
    · rcases Nat.lt_or_ge k w.heap.size with hlt | hge
      · rw [col_lt _ _ _ k hlt]
        rw [e1 k hlt] at hne
        exact h1 k hlt hne
      · exact col_ge _ _ _ hge
  | some m =>
    rw [hx] at hr
    obtain ⟨e, hN, hM, hT⟩ := hr
    have hone := h2.one (getK_mem _ _ _ hx)
    refine ⟨e, hM.kp, hM.kq, hone.1, hone.2, back (netP hu g last (delK n l) hp) [msgO hu m hp] w' ⟨col c w.heap.size hu, col_lt _ _ _, ⟨cn, fun k hk hne => hcn k hne, hN⟩, fun x hx => ?_, hT.mono fun k hk e => h1 k hk e⟩⟩
    simp only [List.mem_cons, List.not_mem_nil, or_false] at hx
    rw [hx]
    exact ⟨hM.op, hM.oq, fun b hb => hcn b (by rw [hM.cp b hb]; omega), fun b hb => hcn b (by rw [hM.cq b hb]; omega)⟩
end
/-- A letter is lost. -/
theorem Mem.lose {w0 w : World} {A B : List Thg} {hu g last : Nat} {l : List (Int × Msg)} {hp : 0 < hu} (h : Mem w0 w (A ++ netP hu g last l hp :: B)) (hd : ∀ x ∈ A ++ B, x.hu ≠ hu) (n : Int) : CallP Try.prog 39 #[.pointer (some ⟨g, 0, none⟩), .int .i64 n] (fun r w' => r = .int .i64 (if (getK n l).isSome then 0 else 7) ∧ Mem w0 w' (A ++ netP hu g last (delK n l) hp :: B)) w := by
  refine ⟨S39.calls _ _ _ _ ?_⟩
  unfold S39
  refine (h.deliver hd n).mono ?_
  intro r w1 hr
  cases hx : getK n l with
  | none =>
    rw [hx] at hr
    obtain ⟨rfl, hM⟩ := hr
    rw [show delK n l = l from delK_none n l (by rw [getK_idx] at hx; simpa using hx)]
    (repeat with_reducible first|refine z_a ?_|refine z_b ?_|refine z_c ?_|refine z_d ?_|refine z_e ?_|refine z_f ?_|refine z_g ?_|refine z_h ?_|refine z_i ?_|refine z_j ?_|refine z_k ?_|refine z_l ?_|refine z_m (by omega) ?_|refine z_n (by omega) ?_|refine z_o (by omega) ?_|refine z_p (by omega) ?_|refine z_q (by omega) ?_|refine z_r (by omega) ?_|refine z_s (by omega) ?_|refine z_t (by omega) ?_|refine z_u (by omega) ?_|refine z_v (by omega) ?_|refine z_w (by omega) ?_|refine z_x (by omega) ?_|refine z_y (by omega) ?_|refine z_z (by omega) ?_|refine z_A ?_|refine z_B ?_|refine z_C ?_|refine z_D ?_|refine z_E ?_|refine z_F ?_|refine z_G ?_|refine z_H ?_|refine z_I ?_|refine z_J ?_|refine z_K (by omega) (by decide) ?_|refine z_L (by omega) (by decide) ?_|refine z_M (by omega) ?_|refine z_N (by omega) ?_|refine z_O (by omega) ?_|refine z_P ?_|refine z_Q ?_|refine z_R ?_|refine z_S ?_|refine z_T ?_|refine z_U (by decide) ?_|refine z_V (by decide) ?_)
    refine newLet rfl rfl ?_
    intro w2 _ hb2
    exact ⟨rfl, hM.below hb2⟩
  | some m =>
    rw [hx] at hr
    obtain ⟨rfl, _, _, o1, o2, hM⟩ := hr
    unfold Msg.val
    (repeat with_reducible first|refine z_a ?_|refine z_b ?_|refine z_c ?_|refine z_d ?_|refine z_e ?_|refine z_f ?_|refine z_g ?_|refine z_h ?_|refine z_i ?_|refine z_j ?_|refine z_k ?_|refine z_l ?_|refine z_m (by omega) ?_|refine z_n (by omega) ?_|refine z_o (by omega) ?_|refine z_p (by omega) ?_|refine z_q (by omega) ?_|refine z_r (by omega) ?_|refine z_s (by omega) ?_|refine z_t (by omega) ?_|refine z_u (by omega) ?_|refine z_v (by omega) ?_|refine z_w (by omega) ?_|refine z_x (by omega) ?_|refine z_y (by omega) ?_|refine z_z (by omega) ?_|refine z_A ?_|refine z_B ?_|refine z_C ?_|refine z_D ?_|refine z_E ?_|refine z_F ?_|refine z_G ?_|refine z_H ?_|refine z_I ?_|refine z_J ?_|refine z_K (by omega) (by decide) ?_|refine z_L (by omega) (by decide) ?_|refine z_M (by omega) ?_|refine z_N (by omega) ?_|refine z_O (by omega) ?_|refine z_P ?_|refine z_Q ?_|refine z_R ?_|refine z_S ?_|refine z_T ?_|refine z_U (by decide) ?_|refine z_V (by decide) ?_)
    refine newLet o1 o2 ?_
    intro w2 _ hb2
    refine ⟨rfl, (hM.below hb2).sub fun x hx => ?_⟩
    exact List.mem_append.2 (.inl hx)
theorem rRow_lt {α : Type} {s : Nat} {r : Rdr α} {w : World} {v : Value} {l : List α} (h : rRow s r w [v] l) (hs : 0 < s) : l = [] ∨ ∀ k, v.ownBlock = some k → k < w.heap.size := by
  cases l with
  | nil => exact .inl rfl
  | cons x t =>
    right
    intro k hk
    obtain ⟨A, c, he, _, _, h3⟩ := h
    simp only [List.cons.injEq, and_true] at he
    subst he
    obtain ⟨a, us, rfl, hus, hc, _⟩ := h3 0 x rfl
    obtain ⟨u, hu⟩ : ∃ u, us[0]? = some u := ⟨us[0], List.getElem?_eq_getElem (by omega)⟩
    have h1 := World.block_lt_of_cell? _ _ (hc 0 u hu)
    have e : a.block = k := by simpa [Value.ownBlock] using hk
    rw [← e]
    simpa [Addr.add_zero'] using h1
def simF (m : Msg) : Let × List PairT × List IntentT := (m.L, m.ps, m.is)
def Sim (l rl : List (Int × Msg)) : Prop := (l.map fun x => (x.1, simF x.2)) = rl.map fun x => (x.1, simF x.2)
section
variable {l rl : List (Int × Msg)}
theorem Sim.keys (h : Sim l rl) : l.map (·.1) = rl.map (·.1) := by
  have := congrArg (List.map Prod.fst) h
  simpa [List.map_map, Function.comp_def] using this
theorem Sim.len (h : Sim l rl) : l.length = rl.length := by
  have := congrArg List.length h
  simpa using this
theorem Sim.get (h : Sim l rl) (n : Int) : (getK n l).map simF = (getK n rl).map simF := by
  rw [← getK_map, ← getK_map]
  exact congrArg (getK n) h
theorem Sim.del (h : Sim l rl) (n : Int) : Sim (delK n l) (delK n rl) := by
  unfold Sim
  rw [← delK_map, ← delK_map]
  exact congrArg (delK n) h
theorem Sim.add (h : Sim l rl) {k : Int} {m m' : Msg} (e : simF m = simF m') : Sim (l ++ [(k, m)]) (rl ++ [(k, m')]) := by
  unfold Sim at h ⊢
  simp only [List.map_append, List.map_cons, List.map_nil, h, e]
theorem Sim.some {n : Int} {m : Msg} (h : Sim l rl) (hx : getK n l = some m) : ∃ m', getK n rl = some m' ∧ m'.L = m.L ∧ m'.ps = m.ps ∧ m'.is = m.is := by
  have := h.get n
  rw [hx] at this
  cases hy : getK n rl with
  | none => rw [hy] at this; cases this
  | some m' =>
    rw [hy] at this
    simp only [Option.map_some, Option.some.injEq, simF, Prod.mk.injEq] at this
    exact ⟨m', rfl, this.1.symm, this.2.1.symm, this.2.2.symm⟩
theorem Sim.none {n : Int} (h : Sim l rl) (hx : getK n l = none) : getK n rl = none := by
  have := h.get n
  rw [hx] at this
  cases hy : getK n rl with
  | none => rfl
  | some m' => rw [hy] at this; cases this
end
theorem atN_pos {n : Int} {l : List (Int × Msg)} {m : Msg} (h : getK n l = some m) : ∃ i : Nat, atN n l = i ∧ ∃ h : i < l.length, l[i] = (n, m) := by
  cases hx : idxK n l with
  | none => rw [(idxK_getK_none hx).1] at h; cases h
  | some p =>
    obtain ⟨i, v⟩ := p
    obtain ⟨h1, h2, _, h4⟩ := idxK_at hx
    rw [h] at h4
    cases h4
    exact ⟨i, by unfold atN; rw [hx], h1, h2⟩
theorem atN_neg {n : Int} {l : List (Int × Msg)} (h : getK n l = none) : atN n l = -1 := by
  cases hx : idxK n l with
  | none => unfold atN; rw [hx]
  | some p =>
    obtain ⟨i, v⟩ := p
    obtain ⟨_, _, _, h4⟩ := idxK_at hx
    rw [h] at h4; cases h4
/-- What is so of both behind k calls. -/
structure PlSt (w0 w : World) (gn gr last k : Nat) (l rl : List (Int × Msg)) : Prop where
  mem : Mem w0 w [netP 8 gn last l (by decide), refO 2 gr last rl (by decide)]
  sim : Sim l rl
  base : ∀ x ∈ rl, Pairs w0 [x.2.p] x.2.ps ∧ Intents w0 [x.2.q] x.2.is
  asc : (l.map (·.1)).Pairwise (· < ·)
  below : ∀ x ∈ l, x.1 ≤ last
  last : last ≤ k
  len : l.length ≤ k
theorem PlSt.one {w0 w : World} {gn gr last k : Nat} {l rl : List (Int × Msg)} (h : PlSt w0 w gn gr last k l rl) : ∀ x ∈ rl, x.2.p.oneCell' = true ∧ x.2.q.oneCell' = true := fun x hx => by
  obtain ⟨h1, h2⟩ := h.base x hx
  obtain ⟨A, c, e, _⟩ := h1.slice
  obtain ⟨A', c', e', _⟩ := h2.slice
  rw [e, e']; exact ⟨rfl, rfl⟩
theorem PlSt.asc_add {w0 w : World} {gn gr last k : Nat} {l rl : List (Int × Msg)} (h : PlSt w0 w gn gr last k l rl) (m : Msg) : ((l ++ [(((last + 1 : Nat) : Int), m)]).map (·.1)).Pairwise (· < ·) ∧ ∀ x ∈ l ++ [(((last + 1 : Nat) : Int), m)], x.1 ≤ ((last + 1 : Nat) : Int) := by
  constructor
  · rw [List.map_append, List.pairwise_append]
    refine ⟨h.asc, by simp, fun a ha b hb => ?_⟩
    simp only [List.map_cons, List.map_nil, List.mem_cons, List.not_mem_nil, or_false] at hb
    subst hb
    obtain ⟨x, hx, rfl⟩ := List.mem_map.1 ha
    have := h.below x hx
    omega
  · intro x hx
    rcases List.mem_append.1 hx with hx | hx
    · have := h.below x hx; omega
    · simp only [List.mem_cons, List.not_mem_nil, or_false] at hx
      rw [hx]; exact Int.le_refl _
def actC (k : Int) (L : Let) (p q : Value) (n : Int) : Array Value := #[.int .i64 k, .int .i64 L.kind, .int .i64 L.frm, .int .i64 L.to, .int .i64 L.a, .int .i64 L.b, .int .i64 L.c, .int .i64 L.d, .string L.s, .string L.t, p, q, .int .i64 L.code, .bool L.yes, .string L.body, .int .i64 n]
theorem act_let {k n : Int} {L : Let} {p q : Value} {j : Nat} {u : Value} (h : (L.cells p q).toList[j]? = some u) : (actC k L p q n)[1 + j]? = some u := by
  have e : (actC k L p q n).toList = .int .i64 k :: ((L.cells p q).toList ++ [.int .i64 n]) := rfl
  rw [← Array.getElem?_toList, e, Nat.add_comm 1 j, List.getElem?_cons_succ, List.getElem?_append_left (List.getElem?_eq_some_iff.1 h).1]
  exact h
theorem act_all {w : World} {us : List Value} {x : ActT} (hl : us.length = 16) (h : rAct w us x) : ∃ (k n : Int) (L : Let) (p q : Value) (ps : List PairT) (is : List IntentT), us = (actC k L p q n).toList ∧ Pairs w [p] ps ∧ Intents w [q] is := by
  obtain ⟨⟨h1, _⟩, h2, ⟨h3, _⟩, h4⟩ := h
  obtain ⟨L, p, q, ps, is, e, hp, hq⟩ := letter_cells h2
  refine ⟨x.1, x.2.2.1, L, p, q, ps, is, ?_, hp, hq⟩
  have e1 : us = us.take 1 ++ ((us.drop 1).take 14 ++ (((us.drop 1).drop 14).take 1 ++ ((us.drop 1).drop 14).drop 1)) := by
    rw [List.take_append_drop, List.take_append_drop, List.take_append_drop]
  have h4' : ((us.drop 1).drop 14).drop 1 = [] := h4
  rw [e1, h1, e, h3, h4']
  rfl
theorem z76 : (Try.prog.info? 76).bind (·.zero) = some (.agg (actC 0 zeroLet (.slice none 0 0) (.slice none 0 0) 0)) := by kernel_rfl
theorem agg76 : aggB Try.prog 76 = true := by kernel_rfl
theorem actC_one (k n : Int) (L : Let) (p q : Value) (hp : p.oneCell' = true) (hq : q.oneCell' = true) : (actC k L p q n).all (·.oneCell') = true := by
  have e : (actC k L p q n).all (·.oneCell') = (p.oneCell' && q.oneCell') := by simp [actC, Value.oneCell']
  rw [e, hp, hq]; rfl
theorem ld58 {K : Value → World → Prop} {w : World} {gv : Nat} {k n : Int} {L : Let} {p q : Value} (hb : Blk w gv 76 (actC k L p q n)) (kk : K (.agg (L.cells p q)) w) : LiftP Try.prog (Instr.loadAt 58 (.pointer (some ⟨gv, 1, none⟩))) K w :=
  ldR agg58 (us := (L.cells p q).toList) (fun j u hu => by rw [add0, hb.cell]; exact act_let hu) (by rw [sz58]; rfl) kk
end Go.Proofs.Ythicbfopjakiiaa.E
