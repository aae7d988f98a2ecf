import Derived.Test.YthicbfopjakiiaaM8
import Derived.Test.YthicbfopjakiiaaM9
import Derived.ArgAppend
namespace Go.Proofs.Ythicbfopjakiiaa.E
open Go Go.RowKit
set_option linter.unusedSimpArgs false
set_option linter.unusedVariables false


/-- Does a number come next? -/
def takes (mark : Nat) (m : Int) : Prop := m = ((mark + 1 : Nat) : Int) ∧ m ≤ 1099511627776
instance (mark : Nat) (m : Int) : Decidable (takes mark m) := inferInstanceAs (Decidable (_ ∧ _))
end Go.Proofs.Ythicbfopjakiiaa.E
namespace Go.Proofs.Ythicbfopjakiiaa.E
open Go Go.RowKit
set_option linter.unusedSimpArgs false
set_option linter.unusedVariables false

theorem or128_add (m : Nat) : UInt8.ofNat (128 + m % 128) = UInt8.ofNat m ||| 128 := by
  rw [Pack.or128_low]
  have h : ∀ i : Fin 128, UInt8.ofNat (128 + i.val) = UInt8.ofNat i.val ||| 128 := by decide +kernel
  exact h ⟨m % 128, by omega⟩
theorem refNum_spec (n : Nat) : ∀ (w : World), n ≤ 1099511627776 → CallP Try.prog 57 #[.int .i64 n] (fun r w' => Own 5 w' r ((Pack.num n).map u8) ∧ Fresh w.heap.size r ∧ Below w.heap.size w w') w := by
  induction n using Nat.strongRecOn with
  | _ n ih =>
    intro w hn
    refine ⟨S57.calls _ _ _ ?_⟩
    unfold S57
    (repeat with_reducible first|refine z_a ?_|refine z_b ?_|refine z_c ?_|refine z_d ?_|refine z_e ?_|refine z_f ?_|refine z_g ?_|refine z_h ?_|refine z_i ?_|refine z_j ?_|refine z_k ?_|refine z_l ?_|refine z_m (by omega) ?_|refine z_n (by omega) ?_|refine z_o (by omega) ?_|refine z_p (by omega) ?_|refine z_q (by omega) ?_|refine z_r (by omega) ?_|refine z_s (by omega) ?_|refine z_t (by omega) ?_|refine z_u (by omega) ?_|refine z_v (by omega) ?_|refine z_w (by omega) ?_|refine z_x (by omega) ?_|refine z_y (by omega) ?_|refine z_z (by omega) ?_|refine z_A ?_|refine z_B ?_|refine z_C ?_|refine z_D ?_|refine z_E ?_|refine z_F ?_|refine z_G ?_|refine z_H ?_|refine z_I ?_|refine z_J ?_|refine z_K (by omega) (by decide) ?_|refine z_L (by omega) (by decide) ?_|refine z_M (by omega) ?_|refine z_N (by omega) ?_|refine z_O (by omega) ?_|refine z_P ?_|refine z_Q ?_|refine z_R ?_|refine z_S ?_|refine z_T ?_|refine z_U (by decide) ?_|refine z_V (by decide) ?_)
    (first | refine bi_lss_c (fun h => ?_) (fun h => ?_) | refine bi_eql_c (fun h => ?_) (fun h => ?_) | refine bi_neq_c (fun h => ?_) (fun h => ?_) | refine bi_gtr_c (fun h => ?_) (fun h => ?_) | refine bi_leq_c (fun h => ?_) (fun h => ?_) | refine bi_geq_c (fun h => ?_) (fun h => ?_) | refine bi_seql_c (fun h => ?_) (fun h => ?_) | refine bi_sneq_c (fun h => ?_) (fun h => ?_))
    · (repeat with_reducible first | refine cv35 ?_|refine z_a ?_|refine z_b ?_|refine z_c ?_|refine z_d ?_|refine z_e ?_|refine z_f ?_|refine z_g ?_|refine z_h ?_|refine z_i ?_|refine z_j ?_|refine z_k ?_|refine z_l ?_|refine z_m (by omega) ?_|refine z_n (by omega) ?_|refine z_o (by omega) ?_|refine z_p (by omega) ?_|refine z_q (by omega) ?_|refine z_r (by omega) ?_|refine z_s (by omega) ?_|refine z_t (by omega) ?_|refine z_u (by omega) ?_|refine z_v (by omega) ?_|refine z_w (by omega) ?_|refine z_x (by omega) ?_|refine z_y (by omega) ?_|refine z_z (by omega) ?_|refine z_A ?_|refine z_B ?_|refine z_C ?_|refine z_D ?_|refine z_E ?_|refine z_F ?_|refine z_G ?_|refine z_H ?_|refine z_I ?_|refine z_J ?_|refine z_K (by omega) (by decide) ?_|refine z_L (by omega) (by decide) ?_|refine z_M (by omega) ?_|refine z_N (by omega) ?_|refine z_O (by omega) ?_|refine z_P ?_|refine z_Q ?_|refine z_R ?_|refine z_S ?_|refine z_T ?_|refine z_U (by decide) ?_|refine z_V (by decide) ?_)
      refine lift (v := .slice (some ⟨w.heap.size, 0, none⟩) 1 1) (w' := w.alloc (.cells #[.int .u8 ((UInt8.ofNat n).toNat : Int)] 5)) (by kernel_rfl) ?_
      rw [Pack.num_small n (by omega)]
      exact ⟨Own.new w 5 [.int .u8 ((UInt8.ofNat n).toNat : Int)] (by simp), fun k hk => by cases hk; exact Nat.le_refl _, (Below.refl _ _).alloc (Nat.le_refl _) _⟩
    (repeat with_reducible first|refine z_a ?_|refine z_b ?_|refine z_c ?_|refine z_d ?_|refine z_e ?_|refine z_f ?_|refine z_g ?_|refine z_h ?_|refine z_i ?_|refine z_j ?_|refine z_k ?_|refine z_l ?_|refine z_m (by omega) ?_|refine z_n (by omega) ?_|refine z_o (by omega) ?_|refine z_p (by omega) ?_|refine z_q (by omega) ?_|refine z_r (by omega) ?_|refine z_s (by omega) ?_|refine z_t (by omega) ?_|refine z_u (by omega) ?_|refine z_v (by omega) ?_|refine z_w (by omega) ?_|refine z_x (by omega) ?_|refine z_y (by omega) ?_|refine z_z (by omega) ?_|refine z_A ?_|refine z_B ?_|refine z_C ?_|refine z_D ?_|refine z_E ?_|refine z_F ?_|refine z_G ?_|refine z_H ?_|refine z_I ?_|refine z_J ?_|refine z_K (by omega) (by decide) ?_|refine z_L (by omega) (by decide) ?_|refine z_M (by omega) ?_|refine z_N (by omega) ?_|refine z_O (by omega) ?_|refine z_P ?_|refine z_Q ?_|refine z_R ?_|refine z_S ?_|refine z_T ?_|refine z_U (by decide) ?_|refine z_V (by decide) ?_)
    rw [show ((128 : Int) + (n : Int) % 128) = ((128 + n % 128 : Nat) : Int) from by omega]
    (repeat with_reducible first | refine cv35 ?_|refine z_a ?_|refine z_b ?_|refine z_c ?_|refine z_d ?_|refine z_e ?_|refine z_f ?_|refine z_g ?_|refine z_h ?_|refine z_i ?_|refine z_j ?_|refine z_k ?_|refine z_l ?_|refine z_m (by omega) ?_|refine z_n (by omega) ?_|refine z_o (by omega) ?_|refine z_p (by omega) ?_|refine z_q (by omega) ?_|refine z_r (by omega) ?_|refine z_s (by omega) ?_|refine z_t (by omega) ?_|refine z_u (by omega) ?_|refine z_v (by omega) ?_|refine z_w (by omega) ?_|refine z_x (by omega) ?_|refine z_y (by omega) ?_|refine z_z (by omega) ?_|refine z_A ?_|refine z_B ?_|refine z_C ?_|refine z_D ?_|refine z_E ?_|refine z_F ?_|refine z_G ?_|refine z_H ?_|refine z_I ?_|refine z_J ?_|refine z_K (by omega) (by decide) ?_|refine z_L (by omega) (by decide) ?_|refine z_M (by omega) ?_|refine z_N (by omega) ?_|refine z_O (by omega) ?_|refine z_P ?_|refine z_Q ?_|refine z_R ?_|refine z_S ?_|refine z_T ?_|refine z_U (by decide) ?_|refine z_V (by decide) ?_)
    rw [or128_add]
    refine lift (v := .slice (some ⟨w.heap.size, 0, none⟩) 1 1) (w' := w.alloc (.cells #[.int .u8 ((UInt8.ofNat n ||| 128).toNat : Int)] 5)) (by kernel_rfl) ?_
    have ha := (Below.refl w.heap.size w).alloc (Nat.le_refl _) (.cells #[.int .u8 ((UInt8.ofNat n ||| 128).toNat : Int)] 5)
    have ho : Own 5 (w.alloc (.cells #[.int .u8 ((UInt8.ofNat n ||| 128).toNat : Int)] 5)) (.slice (some ⟨w.heap.size, 0, none⟩) 1 1) [.int .u8 ((UInt8.ofNat n ||| 128).toNat : Int)] := Own.new w 5 [.int .u8 ((UInt8.ofNat n ||| 128).toNat : Int)] (by simp)
    generalize w.alloc (.cells #[.int .u8 ((UInt8.ofNat n ||| 128).toNat : Int)] 5) = w1 at *
    (repeat with_reducible first|refine z_a ?_|refine z_b ?_|refine z_c ?_|refine z_d ?_|refine z_e ?_|refine z_f ?_|refine z_g ?_|refine z_h ?_|refine z_i ?_|refine z_j ?_|refine z_k ?_|refine z_l ?_|refine z_m (by omega) ?_|refine z_n (by omega) ?_|refine z_o (by omega) ?_|refine z_p (by omega) ?_|refine z_q (by omega) ?_|refine z_r (by omega) ?_|refine z_s (by omega) ?_|refine z_t (by omega) ?_|refine z_u (by omega) ?_|refine z_v (by omega) ?_|refine z_w (by omega) ?_|refine z_x (by omega) ?_|refine z_y (by omega) ?_|refine z_z (by omega) ?_|refine z_A ?_|refine z_B ?_|refine z_C ?_|refine z_D ?_|refine z_E ?_|refine z_F ?_|refine z_G ?_|refine z_H ?_|refine z_I ?_|refine z_J ?_|refine z_K (by omega) (by decide) ?_|refine z_L (by omega) (by decide) ?_|refine z_M (by omega) ?_|refine z_N (by omega) ?_|refine z_O (by omega) ?_|refine z_P ?_|refine z_Q ?_|refine z_R ?_|refine z_S ?_|refine z_T ?_|refine z_U (by decide) ?_|refine z_V (by decide) ?_)
    rw [show ((n : Int) / 128) = ((n / 128 : Nat) : Int) from by omega]
    refine (ih (n / 128) (by omega) w1 (by omega)).mono ?_
    rintro v2 w2 ⟨ho2, hf2, hb2⟩
    have hb2' := below_then ha hb2
    have hnl := Pack.num_length (n / 128)
    refine apF w.heap.size undB inf5 (by rfl) (by decide) (ho.below hb2) (fun k hk => by cases hk; exact Nat.le_refl _) hb2'.size ho2.rd (u8_one _) (by simp only [List.length_map, List.length_cons, List.length_nil]; omega) ?_
    intro v3 w3 ho3 hf3 hb3 _
    rw [Pack.num_big n (by omega)]
    exact ⟨ho3, hf3, hb2'.trans hb3⟩
theorem refText_spec (s : ByteArray) (hs : s.size ≤ 1000000) (w : World) : CallP Try.prog 73 #[.string s] (fun r w' => Own 5 w' r ((Pack.text s).map u8) ∧ Below w.heap.size w w') w := by
  have hsz : s.data.toList.length = s.size := by rw [Array.length_toList]; rfl
  refine ⟨S73.calls _ _ _ ?_⟩
  unfold S73
  refine lns und9 ?_
  refine (refNum_spec s.size w (by omega)).mono ?_
  rintro v1 w1 ⟨ho1, hf1, hb1⟩
  have hnl := Pack.num_length s.size
  refine apS w.heap.size undB und9 inf5 ho1 hf1 hb1.size (by omega) ?_
  intro v2 w2 ho2 hb2
  refine ⟨?_, hb1.trans hb2⟩
  rw [Pack.text, hsz]
  exact ho2
end Go.Proofs.Ythicbfopjakiiaa.E
namespace Go.Proofs.Ythicbfopjakiiaa.E
open Go Go.RowKit

/-- A row of the call's own, or such a row cut to its length (its capacity told as its length). -/
def OwnC (e : TypeId) (w : World) (v : Value) (xs : List Value) : Prop :=
  Own e w v xs ∨ ∃ g cur, v = .slice (some ⟨g, 0, none⟩) xs.length xs.length ∧ Blk w g e cur ∧ xs.length ≤ 9223372036854775807 ∧ xs.length ≤ cur.size ∧ cur.toList.take xs.length = xs
section
variable {e : TypeId} {w w' : World} {v : Value} {xs : List Value}
theorem Own.c (h : Own e w v xs) : OwnC e w v xs := .inl h
theorem OwnC.rd (h : OwnC e w v xs) : Rd w v xs := by
  rcases h with h | ⟨g, cur, rfl, hb, h1, h2, h3⟩
  · exact h.rd
  · refine ⟨some ⟨g, 0, none⟩, xs.length, rfl, Nat.le_refl _, h1, fun i u hu => ⟨_, rfl, ?_⟩⟩
    have hi := (List.getElem?_eq_some_iff.1 hu).1
    rw [add0, Nat.zero_add]
    have := hb.cell i
    rw [this]
    rw [← h3, List.getElem?_take, if_pos hi] at hu
    simpa using hu
theorem OwnC.slice (h : OwnC e w v xs) : ∃ A c, v = .slice A xs.length c := by
  obtain ⟨A, c, rfl, _⟩ := h.rd; exact ⟨A, c, rfl⟩
theorem OwnC.lt (h : OwnC e w v xs) {k : Nat} (hk : v.ownBlock = some k) : k < w.heap.size := by
  rcases h with h | ⟨g, cur, rfl, hb, _⟩
  · exact h.ownLt hk
  · have : g = k := by simpa [Value.ownBlock] using hk
    subst this; exact hb.lt
theorem OwnC.turns {F : Nat → Prop} (h : OwnC e w v xs) (hT : Turns F w w') (hF : ∀ k, v.ownBlock = some k → ¬ F k) : OwnC e w' v xs := by
  rcases h with h | ⟨g, cur, rfl, hb, h1⟩
  · exact .inl (h.turns hT hF)
  · exact .inr ⟨g, cur, rfl, hb.turns hT (hF g rfl), h1⟩
theorem OwnC.below (h : OwnC e w v xs) (hb : Below w.heap.size w w') : OwnC e w' v xs := h.turns (F := fun _ => False) (Turns.of_below hb) (fun _ _ h => h)
theorem OwnC.at {A : Option Addr} {n c : Nat} (h : OwnC e w (.slice A n c) xs) (i : Nat) (hi : i < xs.length) : ∃ g, A = some ⟨g, 0, none⟩ ∧ w.cell? ⟨g, i, none⟩ = some xs[i] ∧ w.frozen? ⟨g, i, none⟩ = false := by
  obtain ⟨a, ha, hc⟩ := Rd.at h.rd i hi
  rcases h with h | ⟨g, cur, he, hb, h1⟩
  · obtain ⟨g, rfl, h2, h3⟩ := h.at i hi
    rw [add0, Nat.zero_add] at h2 h3
    exact ⟨g, rfl, h2, h3⟩
  · cases he
    cases ha
    rw [add0, Nat.zero_add] at hc
    exact ⟨g, rfl, hc, hb.frozen i⟩
theorem OwnC.set {g n c : Nat} (h : OwnC e w (.slice (some ⟨g, 0, none⟩) n c) xs) (i : Nat) (hi : i < xs.length) (u : Value) : OwnC e (w.setCell ⟨g, i, none⟩ u) (.slice (some ⟨g, 0, none⟩) n c) (xs.set i u) := by
  rcases h with h | ⟨g', cur, he, hb, h1, h2, h3⟩
  · have := h.set i hi u
    rw [add0, Nat.zero_add] at this
    exact .inl this
  · cases he
    refine .inr ⟨g, cur.setIfInBounds i u, by simp, hb.set_ i u, by simpa using h1, by simpa using h2, ?_⟩
    rw [Array.toList_setIfInBounds, List.length_set, List.take_set, h3]
/-- Cut to its first k cells, capacity and all. -/
theorem OwnC.cut {A : Option Addr} {n c : Nat} (h : OwnC e w (.slice A n c) xs) (k : Nat) (hk : k ≤ xs.length) : OwnC e w (sliced A 0 k k 1) (xs.take k) ∧ (∀ b, (sliced A 0 k k 1).ownBlock = some b → (Value.slice A n c).ownBlock = some b) := by
  have hlen : (xs.take k).length = k := by rw [List.length_take]; omega
  rcases h with h | ⟨g, cur, he, hb, h1, h2, h3⟩
  · rcases h.2 with ⟨he, h0⟩ | ⟨g, cap, cur, he, _, hh, hn, hm, hs, ht⟩
    · cases he
      have : k = 0 := by omega
      subst this
      exact ⟨.inl (by simpa [sliced] using Own.nil e w), fun b hb => by simp [sliced, Value.ownBlock] at hb⟩
    · cases he
      have e1 : sliced (some ⟨g, 0, none⟩) 0 k k 1 = .slice (some ⟨g, 0, none⟩) k k := by simp [sliced, add0]
      rw [e1]
      simp only [maxLen] at hm
      refine ⟨.inr ⟨g, cur, by rw [hlen], hh, by omega, by omega, ?_⟩, fun b hb => hb⟩
      rw [hlen]
      rw [Nat.mul_one] at ht
      rw [← ht, List.take_take, show min k xs.length = k from by omega]
  · cases he
    have e1 : sliced (some ⟨g, 0, none⟩) 0 k k 1 = .slice (some ⟨g, 0, none⟩) k k := by simp [sliced, add0]
    rw [e1]
    refine ⟨.inr ⟨g, cur, by rw [hlen], hb, by omega, by omega, ?_⟩, fun b hb => hb⟩
    rw [hlen, ← h3, List.take_take, show min k xs.length = k from by omega]
end
theorem Rd.turns {F : Nat → Prop} {w w' : World} {v : Value} {cs : List Value} (h : Rd w v cs) (hT : Turns F w w') (hF : cs = [] ∨ ∀ b, v.ownBlock = some b → ¬ F b) : Rd w' v cs := by
  obtain ⟨A, c, rfl, h1, h2, h3⟩ := h
  refine ⟨A, c, rfl, h1, h2, fun i u hu => ?_⟩
  obtain ⟨a, rfl, hc⟩ := h3 i u hu
  have e : (a.add i).block = a.block := by unfold Addr.add; split <;> rfl
  have hlt := World.block_lt_of_cell? w _ hc
  refine ⟨a, rfl, (World.cell?_of_block (w := w) (a := a.add i) ?_).trans hc⟩
  refine hT.block _ hlt ?_
  rw [e]
  rcases hF with rfl | hF
  · simp at hu
  · exact hF _ rfl
theorem RdB.turns {F : Nat → Prop} {w w' : World} {v : Value} {bs : List UInt8} (h : RdB w v bs) (hT : Turns F w w') (hF : bs = [] ∨ ∀ b, v.ownBlock = some b → ¬ F b) : RdB w' v bs :=
  Rd.turns h hT (hF.imp_left fun h => by rw [h]; rfl)
theorem Rd.lt {w : World} {v : Value} {cs : List Value} (h : Rd w v cs) (h0 : cs ≠ []) {b : Nat} (hb : v.ownBlock = some b) : b < w.heap.size := by
  obtain ⟨A, c, rfl, h1, h2, h3⟩ := h
  cases cs with
  | nil => exact absurd rfl h0
  | cons y r =>
    obtain ⟨a, rfl, hc⟩ := h3 0 y rfl
    have e : (a.add 0).block = a.block := by unfold Addr.add; split <;> rfl
    have hlt := World.block_lt_of_cell? w _ hc
    rw [e] at hlt
    cases hb
    exact hlt
theorem RdB.lt {w : World} {v : Value} {bs : List UInt8} (h : RdB w v bs) (h0 : bs ≠ []) {b : Nat} (hb : v.ownBlock = some b) : b < w.heap.size :=
  Rd.lt h (fun e => h0 (by simpa using e)) hb

theorem mnI {P : Program} {K : Value → World → Prop} {w : World} {t ty : TypeId} {cs : Array Bool} {a b : Int} (k : K (.int .i64 (min a b)) w) : NextP P (builtin .min #[t, t] ty cs #[.int .i64 a, .int .i64 b]) K w :=
  nextV (v := .int .i64 (min a b)) (w' := w) (by
    have := Lib.run_min_ints (P := P) w #[t, t] ty .i64 .i64 a b
    simp only [builtin] at this ⊢
    simp [this]) k
/-- A row's block has this colour. -/
def InC (c : Nat → Nat) (x : Nat) (v : Value) : Prop := ∀ b, v.ownBlock = some b → c b = x
/-- The colours, what is new since n blocks being of colour x. -/
def col (c : Nat → Nat) (n x : Nat) : Nat → Nat := fun k => if k < n then c k else x
/-- The blocks that have a colour. -/
def D (c : Nat → Nat) : Nat → Prop := fun k => c k ≠ 0
theorem InC.nil (c : Nat → Nat) (x : Nat) (n k : Nat) : InC c x (.slice none n k) := fun b hb => by cases hb
theorem InC.ne {c : Nat → Nat} {x y g : Nat} {v : Value} (h : InC c x v) (hg : c g = y) (hxy : x ≠ y) : v.ownBlock ≠ some g := fun he => hxy ((h g he).symm.trans hg)
theorem col_lt (c : Nat → Nat) (n x : Nat) : ∀ k, k < n → col c n x k = c k := fun k hk => by simp only [col]; rw [if_pos hk]
theorem col_ge (c : Nat → Nat) (n x : Nat) {k : Nat} (hk : n ≤ k) : col c n x k = x := by simp only [col]; rw [if_neg (by omega)]
theorem Turns.step {c c1 : Nat → Nat} {w w1 w2 : World} (h : Turns (D c) w w1) (hc : ∀ k, k < w.heap.size → c1 k = c k) (k : Turns (D c1) w1 w2) : Turns (D c) w w2 :=
  h.trans (k.mono fun j _ hj => by
    rcases Nat.lt_or_ge j w.heap.size with hlt | hge
    · exact .inl (by rw [D, ← hc j hlt]; exact hj)
    · exact .inr hge)
theorem InC.re {c c' : Nat → Nat} {x n : Nat} {v : Value} (h : InC c x v) (hlt : ∀ b, v.ownBlock = some b → b < n) (hc : ∀ k, k < n → c' k = c k) : InC c' x v := fun b hb => (hc b (hlt b hb)).trans (h b hb)
end Go.Proofs.Ythicbfopjakiiaa.E
