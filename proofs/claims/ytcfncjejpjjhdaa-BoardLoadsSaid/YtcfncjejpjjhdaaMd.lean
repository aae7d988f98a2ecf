import Derived.Test.YtcfncjejpjjhdaaMc
import Derived.Test.YtcfncjejpjjhdaaMa
namespace Go.Proofs.Ytcfncjejpjjhdaa.E
open Go Go.RowKit
set_option linter.unusedSimpArgs false
set_option linter.unusedVariables false

theorem szIs : (Try.prog.info? 23).map (·.size) = some 1 := by kernel_rfl
theorem pairs_two : ∀ (l : List Txt) (j : Nat) (h : 2 * j + 1 < l.length), pairsT (l.take (2 * (j + 1))) = pairsT (l.take (2 * j)) ++ [(l[2 * j], l[2 * j + 1])]
  | [], j, h => by simp at h
  | [a], j, h => by simp at h
  | a :: b :: l, 0, h => by simp [pairsT]
  | a :: b :: l, j + 1, h => by
    have ih := pairs_two l j (by simp only [List.length_cons] at h; omega)
    have e1 : 2 * (j + 1 + 1) = 2 * (j + 1) + 2 := by omega
    have e2 : 2 * (j + 1) = 2 * j + 2 := by omega
    rw [e1, List.take_succ_cons, List.take_succ_cons, pairsT, ih]
    simp only [e2, List.take_succ_cons, pairsT, List.getElem_cons_succ, List.cons_append]
theorem pairs_rest : ∀ (l : List Txt) (j : Nat), 2 * j ≤ l.length → l.length - 2 * j ≤ 1 → pairsT (l.take (2 * j)) = pairsT l
  | [], j, h, h1 => by simp
  | [a], 0, h, h1 => by simp [pairsT]
  | [a], j + 1, h, h1 => by simp only [List.length_cons, List.length_nil] at h; omega
  | a :: b :: l, 0, h, h1 => by simp only [List.length_cons] at h1; omega
  | a :: b :: l, j + 1, h, h1 => by
    have ih := pairs_rest l j (by simp only [List.length_cons] at h; omega) (by simp only [List.length_cons] at h1; omega)
    have e2 : 2 * (j + 1) = 2 * j + 2 := by omega
    rw [e2, List.take_succ_cons, List.take_succ_cons, pairsT, ih, pairsT]
theorem rNum_most {bs : List UInt8} {m : Nat} {st : St} (h : (rNum bs m st).2.2 = false) : (rNum bs m st).1 ≤ m := by
  unfold rNum at *
  split at h
  · rename_i hb; rw [hb] at h; cases h
  · rename_i hb
    rw [if_neg hb]
    simp only [decide_eq_false_iff_not, not_or, Nat.not_lt] at h
    exact h.2
theorem rFields_stop {bs : List UInt8} {k : Nat} {st : St} (h : k = 0 ∨ st.2 = true) : rFields bs k st = ([], st) := by
  cases k with
  | zero => rfl
  | succ k =>
    rcases h with h | h
    · omega
    · rw [rFields, if_pos h]
theorem rLines_stop {bs : List UInt8} {k : Nat} {st : St} (h : k = 0 ∨ st.2 = true) : rLines bs k st = ([], st) := by
  cases k with
  | zero => rfl
  | succ k =>
    rcases h with h | h
    · omega
    · rw [rLines, if_pos h]
theorem RdAt.mark {w : World} {g : Nat} {v : Value} {bs : List UInt8} {st : St} (h : RdAt w g v bs st) (b : Bool) :
    (w.cell? ⟨g, 2, none⟩).isSome = true ∧ w.frozen? ⟨g, 2, none⟩ = false ∧ RdAt (w.setCell ⟨g, 2, none⟩ (.bool b)) g v bs (st.1, b) ∧ Turns (fun k => k = g) w (w.setCell ⟨g, 2, none⟩ (.bool b)) := by
  have hT2 := Turns.setCell (F := fun k => k = g) (p := ⟨g, 2, none⟩) (Turns.refl _ w) (.inl rfl) (.bool b)
  refine ⟨by rw [h.blk.cell 2]; rfl, h.blk.frozen 2, ⟨h.blk.set_ 2 (.bool b), h.rd.turns hT2 ?_, h.le, h.ne⟩, hT2⟩
  exact h.ne.imp id fun hh b hb e => hh b hb e
def lenOf : Value → Nat
  | .slice _ n _ => n
  | _ => 0
theorem strs_get (l : List (List UInt8)) (i : Nat) (h : i < (strs l).length) : (strs l)[i] = tS (l[i]'(by unfold strs at h; rwa [List.length_map] at h)) := List.getElem_map ..
theorem lenOf_sliced (A : Option Addr) (l k m s : Nat) : lenOf (sliced A l k m s) = k - l := rfl
theorem lenOf_slice (A : Option Addr) (n c : Nat) : lenOf (.slice A n c) = n := rfl
def wrong1 (x : Ln) (odd : Bool) : Prop := odd = true ∨ (x.st = 3 ∧ x.fs ≠ []) ∨ (x.st ≠ 3 ∧ ckI x.fs ≠ 0)
def wrong2 (x : Ln) : Prop := x.st = 0 ∨ ¬ (x.st = 1 ↔ x.rs ≠ []) ∨ lst x.rs ≠ x.rs
theorem wrong_two (x : Ln) (odd : Bool) : wrongL x odd ↔ wrong1 x odd ∨ wrong2 x := by
  unfold wrongL wrong1 wrong2
  simp only [or_assoc]
theorem rTexts_len {bs : List UInt8} {st : St} (h : st.1 ≤ bs.length) : (rTexts bs st).1.length ≤ bs.length := by
  unfold rTexts
  split
  · simp
  · by_cases h2 : (textsAt bs st.1 bs.length bs.length).2.2 = 0
    · exact (textsAt_form bs _ _ _ h h2).2.1
    · have : textsAt bs st.1 bs.length bs.length = ([], 0, (textsAt bs st.1 bs.length bs.length).2.2) := by
        unfold textsAt at h2 ⊢
        split
        · rfl
        · rename_i h3
          rw [if_neg h3] at h2
          split
          · rfl
          · rename_i h4
            rw [if_neg h4] at h2
            exact textsFrom_err bs _ _ _ h2
      rw [this]; simp
/-- 'n > 0 && !r.bad', where it does not hold. -/
theorem loopStop {w : World} {g : Nat} {p : Bool} {K : Value → World → Prop} (h : p = false ∨ w.cell? ⟨g, 2, none⟩ = some (.bool true)) (k : K (.bool false) w) :
    GuardP (.bool p) true (fun K w => K (.pointer (some ⟨g, 0, none⟩)) w) (fun v37 w => GuardP (.bool p) true (fun K w => NextP Try.prog (nilChk v37) K w) (fun v38 w => GuardP (.bool p) true (fun K w => LiftP Try.prog (Instr.fieldAt 86 v38 2) K w) (fun v39 w => GuardP (.bool p) true (fun K w => LiftP Try.prog (Instr.loadAt 4 v39) K w) (fun v40 w => GuardP (.bool p) true (fun K w => LiftP Try.prog (Op.unary .not v40) K w) (fun v41 w => PickP (.bool p) v41 (.bool false) K w) w) w) w) w) w := by
  cases p with
  | false =>
    (repeat with_reducible first|refine z_a ?_|refine z_b ?_|refine z_c ?_|refine z_d ?_|refine z_e ?_|refine z_f ?_|refine z_g ?_|refine z_h ?_|refine z_i ?_|refine z_j ?_|refine z_k ?_|refine z_l ?_|refine z_m (by omega) ?_|refine z_n (by omega) ?_|refine z_o (by omega) ?_|refine z_p (by omega) ?_|refine z_q (by omega) ?_|refine z_r (by omega) ?_|refine z_s (by omega) ?_|refine z_t (by omega) ?_|refine z_u (by omega) ?_|refine z_v (by omega) ?_|refine z_w (by omega) ?_|refine z_x (by omega) ?_|refine z_y (by omega) ?_|refine z_z (by omega) ?_|refine z_A ?_|refine z_B ?_|refine z_C ?_|refine z_D ?_|refine z_E ?_|refine z_F ?_|refine z_G ?_|refine z_H ?_|refine z_I ?_)
    exact k
  | true =>
    have hc := h.resolve_left (by simp)
    (repeat with_reducible first | refine fd rd2 (by decide) ?_| refine ld oneBo hc ?_|refine z_a ?_|refine z_b ?_|refine z_c ?_|refine z_d ?_|refine z_e ?_|refine z_f ?_|refine z_g ?_|refine z_h ?_|refine z_i ?_|refine z_j ?_|refine z_k ?_|refine z_l ?_|refine z_m (by omega) ?_|refine z_n (by omega) ?_|refine z_o (by omega) ?_|refine z_p (by omega) ?_|refine z_q (by omega) ?_|refine z_r (by omega) ?_|refine z_s (by omega) ?_|refine z_t (by omega) ?_|refine z_u (by omega) ?_|refine z_v (by omega) ?_|refine z_w (by omega) ?_|refine z_x (by omega) ?_|refine z_y (by omega) ?_|refine z_z (by omega) ?_|refine z_A ?_|refine z_B ?_|refine z_C ?_|refine z_D ?_|refine z_E ?_|refine z_F ?_|refine z_G ?_|refine z_H ?_|refine z_I ?_)
    exact k
theorem BdS.recolor {hu : Nat} {cc c' : Nat → Nat} {w : World} {g : Nat} {V : BdV} (h : BdS hu cc w g V) (hc : ∀ k, cc k = hu ∨ cc k = 999 → c' k = cc k) : BdS hu c' w g V := by
  obtain ⟨vL, M, h, q⟩ := h
  exact ⟨vL, M, ⟨⟨h.hh, h.row, fun k hk => (hc k (.inl (h.hue k hk))).trans (h.hue k hk), fun m hm => ⟨(h.el m hm).fo, fun k hk => (hc k (.inr ((h.el m hm).fh k hk))).trans ((h.el m hm).fh k hk), (h.el m hm).ro, fun k hk => (hc k (.inr ((h.el m hm).rh k hk))).trans ((h.el m hm).rh k hk)⟩⟩,
    (hc g (.inl h.hug)).trans h.hug, h.blk⟩, q⟩
/-- A line that is being read: its fields, its state, its ranges; nothing that was there at ws but g is turned. -/
structure LineAt (ws w : World) (g g7 : Nat) (v : Value) (bs : List UInt8) (st : St) (vf vr : Value) (fs : List Int) (s : Nat) (rs : List Rg) : Prop where
  rdr : RdAt w g v bs st
  blk : Blk w g7 69 #[vf, .int .i64 s, vr]
  g7 : ws.heap.size ≤ g7
  fo : Own 3 w vf (iV fs)
  ff : Fresh ws.heap.size vf
  ro : OwnA ws.heap.size w vr rs
  T : Turns (fun k => k = g) ws w
section
variable {ws w w' : World} {g g7 : Nat} {v : Value} {bs : List UInt8} {st st' : St} {vf vr : Value} {fs : List Int} {s : Nat} {rs : List Rg}
theorem LineAt.below (h : LineAt ws w g g7 v bs st vf vr fs s rs) (hb : Below w.heap.size w w') : LineAt ws w' g g7 v bs st vf vr fs s rs :=
  ⟨h.rdr.below hb, h.blk.below' hb, h.g7, h.fo.below hb, h.ff, h.ro.kept hb, h.T.then_below hb⟩
/-- A call that turns the reader alone. -/
theorem LineAt.reads (h : LineAt ws w g g7 v bs st vf vr fs s rs) (hg : g < ws.heap.size) (hR : RdAt w' g v bs st') (hT : Turns (fun k => k = g) w w') : LineAt ws w' g g7 v bs st' vf vr fs s rs := by
  have h7 := h.g7
  refine ⟨hR, h.blk.turns hT (by omega), h.g7, ownsRow_turns h.fo hT fun k hk e => ?_, h.ff, ⟨ownsRow_turns h.ro.1 hT fun k hk e => ?_, h.ro.2⟩, h.T.trans (hT.mono fun k _ e => .inl e)⟩
  · have := h.ff k hk; omega
  · have := h.ro.2 k hk; omega
end
set_option maxHeartbeats 4000000 in
open Classical in
/-- What a board's text is. -/
theorem Load24 (hu : Nat) (hh : 0 < hu ∧ hu < 999) (c : Nat → Nat) (s : ByteArray) (hsz : s.size ≤ 200000) (w : World) :
    CallP Try.prog 24 #[.string s] (fun r w' => (match loadB s.data.toList with
      | some V => ∃ g c', r = .tuple #[.pointer (some ⟨g, 0, none⟩), .int .i64 0] ∧ (∀ k, k < w.heap.size → c' k = c k) ∧ BdS hu c' w' g V
      | none => r = .tuple #[.pointer none, .int .i64 3]) ∧ Below w.heap.size w w') w := by
  refine ⟨S24.calls _ _ _ ?_⟩
  unfold S24
  have hsl : s.data.toList.length = s.size := by rw [Array.length_toList]; rfl
  refine cvSB undT9 undB undU8 (by omega) ?_
  intro v w1 hv1 hb1
  have tln' : ∀ {K : Value → World → Prop} {w : World} {cs : Array Bool} {tt : TypeId}, K (.int .i64 s.size) w → NextP Try.prog (builtin .len #[9] tt cs #[.string s]) K w := fun {K w cs tt} k => by
    rw [tS_of]
    refine tln undT9 ?_
    rw [hsl]; exact k
  generalize hbs : s.data.toList = bs at *
  have hbl : bs.length ≤ 200000 := by omega
  obtain ⟨Av, cv, hvv, _⟩ := hv1.slice
  rw [hvv]
  refine bd (cells := #[.slice Av bs.length cv, .int .i64 0, .bool false]) (by kernel_rfl) ?_
  rw [← hvv]
  refine bxB ?_
  intro g w2 hg hB2 h2
  have hvlt1 : bs = [] ∨ ∀ b, v.ownBlock = some b → b < w1.heap.size := by
    rcases Classical.em (bs = []) with e | e
    · exact .inl e
    · exact .inr fun b hb => hv1.lt e hb
  have R2 : RdAt w2 g v bs (0, false) := ⟨hB2, hv1.below h2, Nat.zero_le _, hvlt1.imp id fun hh b hb => by have := hh b hb; omega⟩
  have hb2 := below_then hb1 h2
  refine (New9 hu hh (fun _ => 0) w2).mono ?_
  rintro _ w3 ⟨gB, c3, rfl, hc3, hS3, h3⟩
  have R3 := R2.below h3
  have hb3 := below_then hb2 h3
  refine (num44 6 (by omega) R3 (by omega)).mono ?_
  rintro _ w4 ⟨rfl, R4, T4⟩
  have hs1 := hb1.size
  have hs2 := h2.size
  have hs3 := h3.size
  have hg2 := hB2.lt
  have hvlt : bs = [] ∨ ∀ b, v.ownBlock = some b → b < w2.heap.size := hvlt1.imp id fun hh b hb => by have := hh b hb; omega
  have S4 : BdS hu c3 w4 gB [] := hS3.turns T4 fun k hk => by rw [hk, hc3 g hg2]; omega
  have hb4 : Below w2.heap.size w2 w3 := h3
  have T24 : Turns (fun k => k = g) w2 w4 := (Turns.of_below h3).trans (T4.mono fun k _ e => .inl e)
  refine LoopP.inv1 (fun nv w' => ∃ (k : Nat) (V : BdV) (z : St) (cc : Nat → Nat), nv = .int .i64 k ∧ (z.2 = false → k ≤ 6) ∧ (z.2 = false → V.length + k ≤ 6) ∧ rLines bs (rNum bs 6 (0, false)).1 (rNum bs 6 (0, false)).2 = (V ++ (rLines bs k z).1, (rLines bs k z).2) ∧ RdAt w' g v bs z ∧ BdS hu cc w' gB V ∧ (∀ j, j < w2.heap.size → cc j = 0) ∧ Turns (fun k => k = g) w2 w') (fun nv _ => (intOf nv).toNat)
    ⟨_, [], _, c3, rfl, fun e => rNum_most e, fun e => by have := rNum_most e; simpa using this, rfl, R4, S4, hc3, T24⟩ ?_
  clear S4 T24 T4 R4 R3 hS3
  rintro _ ws ⟨k, V, z, cc, rfl, hk6, hVk, hrel, R5, S5, hlow, T5⟩ J hJ
  dsimp only [List.headD_cons, List.tail_cons]
  have hws := T5.size
  have c2 : ws.cell? ⟨g, 2, none⟩ = some (.bool z.2) := R5.blk.cell 2
  have hstop : (k = 0 ∨ z.2 = true) ∨ (0 < k ∧ z.2 = false) := by
    cases h2 : z.2 with
    | true => exact .inl (.inr rfl)
    | false =>
      rcases Nat.eq_zero_or_pos k with h | h
      · exact .inl (.inl h)
      · exact .inr ⟨h, rfl⟩
  rcases hstop with hstop | ⟨hk0, hst⟩
  · -- the end
    have hend := rLines_stop (bs := bs) hstop
    rw [hend, List.append_nil] at hrel
    have c1 : ws.cell? ⟨g, 1, none⟩ = some (.int .i64 z.1) := R5.blk.cell 1
    have hbw : Below w.heap.size w ws := hb2.trans (T5.below hb2.size fun k hk e => by omega)
    have hload : loadB bs = if z.2 = true ∨ z.1 ≠ bs.length then none else some V := by
      unfold loadB
      simp only [hrel]
    have fin : (z.2 = true ∨ z.1 ≠ bs.length) → (match loadB bs with
      | some V => ∃ g c', Value.tuple #[.pointer none, .int .i64 3] = .tuple #[.pointer (some ⟨g, 0, none⟩), .int .i64 0] ∧ (∀ k, k < w.heap.size → c' k = c k) ∧ BdS hu c' ws g V
      | none => Value.tuple #[.pointer none, .int .i64 3] = .tuple #[.pointer none, .int .i64 3]) ∧ Below w.heap.size w ws := fun hbad => by
      rw [hload, if_pos hbad]
      exact ⟨rfl, hbw⟩
    rcases hstop with hz | hz
    · subst hz
      (repeat with_reducible first | refine fd rd2 (by decide) ?_| refine ld oneBo c2 ?_|refine z_a ?_|refine z_b ?_|refine z_c ?_|refine z_d ?_|refine z_e ?_|refine z_f ?_|refine z_g ?_|refine z_h ?_|refine z_i ?_|refine z_j ?_|refine z_k ?_|refine z_l ?_|refine z_m (by omega) ?_|refine z_n (by omega) ?_|refine z_o (by omega) ?_|refine z_p (by omega) ?_|refine z_q (by omega) ?_|refine z_r (by omega) ?_|refine z_s (by omega) ?_|refine z_t (by omega) ?_|refine z_u (by omega) ?_|refine z_v (by omega) ?_|refine z_w (by omega) ?_|refine z_x (by omega) ?_|refine z_y (by omega) ?_|refine z_z (by omega) ?_|refine z_A ?_|refine z_B ?_|refine z_C ?_|refine z_D ?_|refine z_E ?_|refine z_F ?_|refine z_G ?_|refine z_H ?_|refine z_I ?_)
      cases hst : z.2 with
      | true =>
        (repeat with_reducible first|refine z_a ?_|refine z_b ?_|refine z_c ?_|refine z_d ?_|refine z_e ?_|refine z_f ?_|refine z_g ?_|refine z_h ?_|refine z_i ?_|refine z_j ?_|refine z_k ?_|refine z_l ?_|refine z_m (by omega) ?_|refine z_n (by omega) ?_|refine z_o (by omega) ?_|refine z_p (by omega) ?_|refine z_q (by omega) ?_|refine z_r (by omega) ?_|refine z_s (by omega) ?_|refine z_t (by omega) ?_|refine z_u (by omega) ?_|refine z_v (by omega) ?_|refine z_w (by omega) ?_|refine z_x (by omega) ?_|refine z_y (by omega) ?_|refine z_z (by omega) ?_|refine z_A ?_|refine z_B ?_|refine z_C ?_|refine z_D ?_|refine z_E ?_|refine z_F ?_|refine z_G ?_|refine z_H ?_|refine z_I ?_)
        exact fin (.inl hst)
      | false =>
        (repeat with_reducible first | refine fd rd1 (by decide) ?_| refine ld oneI c1 ?_| refine tln' ?_|refine z_a ?_|refine z_b ?_|refine z_c ?_|refine z_d ?_|refine z_e ?_|refine z_f ?_|refine z_g ?_|refine z_h ?_|refine z_i ?_|refine z_j ?_|refine z_k ?_|refine z_l ?_|refine z_m (by omega) ?_|refine z_n (by omega) ?_|refine z_o (by omega) ?_|refine z_p (by omega) ?_|refine z_q (by omega) ?_|refine z_r (by omega) ?_|refine z_s (by omega) ?_|refine z_t (by omega) ?_|refine z_u (by omega) ?_|refine z_v (by omega) ?_|refine z_w (by omega) ?_|refine z_x (by omega) ?_|refine z_y (by omega) ?_|refine z_z (by omega) ?_|refine z_A ?_|refine z_B ?_|refine z_C ?_|refine z_D ?_|refine z_E ?_|refine z_F ?_|refine z_G ?_|refine z_H ?_|refine z_I ?_)
        refine bi_neq_c (fun hne => ?_) (fun heq => ?_)
        · (repeat with_reducible first|refine z_a ?_|refine z_b ?_|refine z_c ?_|refine z_d ?_|refine z_e ?_|refine z_f ?_|refine z_g ?_|refine z_h ?_|refine z_i ?_|refine z_j ?_|refine z_k ?_|refine z_l ?_|refine z_m (by omega) ?_|refine z_n (by omega) ?_|refine z_o (by omega) ?_|refine z_p (by omega) ?_|refine z_q (by omega) ?_|refine z_r (by omega) ?_|refine z_s (by omega) ?_|refine z_t (by omega) ?_|refine z_u (by omega) ?_|refine z_v (by omega) ?_|refine z_w (by omega) ?_|refine z_x (by omega) ?_|refine z_y (by omega) ?_|refine z_z (by omega) ?_|refine z_A ?_|refine z_B ?_|refine z_C ?_|refine z_D ?_|refine z_E ?_|refine z_F ?_|refine z_G ?_|refine z_H ?_|refine z_I ?_)
          exact fin (.inr (by omega))
        · (repeat with_reducible first|refine z_a ?_|refine z_b ?_|refine z_c ?_|refine z_d ?_|refine z_e ?_|refine z_f ?_|refine z_g ?_|refine z_h ?_|refine z_i ?_|refine z_j ?_|refine z_k ?_|refine z_l ?_|refine z_m (by omega) ?_|refine z_n (by omega) ?_|refine z_o (by omega) ?_|refine z_p (by omega) ?_|refine z_q (by omega) ?_|refine z_r (by omega) ?_|refine z_s (by omega) ?_|refine z_t (by omega) ?_|refine z_u (by omega) ?_|refine z_v (by omega) ?_|refine z_w (by omega) ?_|refine z_x (by omega) ?_|refine z_y (by omega) ?_|refine z_z (by omega) ?_|refine z_A ?_|refine z_B ?_|refine z_C ?_|refine z_D ?_|refine z_E ?_|refine z_F ?_|refine z_G ?_|refine z_H ?_|refine z_I ?_)
          rw [hload, if_neg (by rw [hst]; simp; omega)]
          refine ⟨⟨gB, fun k => if k < w.heap.size then c k else cc k, rfl, fun k hk => if_pos hk, S5.recolor fun k hk => ?_⟩, hbw⟩
          rw [if_neg]
          intro hlt
          have := hlow k (by omega)
          omega
    · have hz0 := hz
      rw [hz] at c2
      refine bi_gtr_c (fun h0 => ?_) (fun h0 => ?_)
      all_goals
        (repeat with_reducible first | refine fd rd2 (by decide) ?_| refine ld oneBo c2 ?_|refine z_a ?_|refine z_b ?_|refine z_c ?_|refine z_d ?_|refine z_e ?_|refine z_f ?_|refine z_g ?_|refine z_h ?_|refine z_i ?_|refine z_j ?_|refine z_k ?_|refine z_l ?_|refine z_m (by omega) ?_|refine z_n (by omega) ?_|refine z_o (by omega) ?_|refine z_p (by omega) ?_|refine z_q (by omega) ?_|refine z_r (by omega) ?_|refine z_s (by omega) ?_|refine z_t (by omega) ?_|refine z_u (by omega) ?_|refine z_v (by omega) ?_|refine z_w (by omega) ?_|refine z_x (by omega) ?_|refine z_y (by omega) ?_|refine z_z (by omega) ?_|refine z_A ?_|refine z_B ?_|refine z_C ?_|refine z_D ?_|refine z_E ?_|refine z_F ?_|refine z_G ?_|refine z_H ?_|refine z_I ?_)
        exact fin (.inl hz0)
  -- a line
  rw [hst] at c2
  have hk6' := hk6 hst
  (repeat with_reducible first | refine fd rd2 (by decide) ?_| refine ld oneBo c2 ?_|refine z_a ?_|refine z_b ?_|refine z_c ?_|refine z_d ?_|refine z_e ?_|refine z_f ?_|refine z_g ?_|refine z_h ?_|refine z_i ?_|refine z_j ?_|refine z_k ?_|refine z_l ?_|refine z_m (by omega) ?_|refine z_n (by omega) ?_|refine z_o (by omega) ?_|refine z_p (by omega) ?_|refine z_q (by omega) ?_|refine z_r (by omega) ?_|refine z_s (by omega) ?_|refine z_t (by omega) ?_|refine z_u (by omega) ?_|refine z_v (by omega) ?_|refine z_w (by omega) ?_|refine z_x (by omega) ?_|refine z_y (by omega) ?_|refine z_z (by omega) ?_|refine z_A ?_|refine z_B ?_|refine z_C ?_|refine z_D ?_|refine z_E ?_|refine z_F ?_|refine z_G ?_|refine z_H ?_|refine z_I ?_)
  have hgs : g < ws.heap.size := by omega
  have hvs : bs = [] ∨ ∀ b, v.ownBlock = some b → b < ws.heap.size := hvlt.imp id fun hh b hb => by have := hh b hb; omega
  refine (num44 3 (by omega) R5 (by omega)).mono ?_
  rintro _ w6 ⟨rfl, R6, T6⟩
  generalize ha : rNum bs 3 z = a at *
  refine bd (cells := #[.slice none 0 0, .int .i64 a.1, .slice none 0 0]) (by kernel_rfl) ?_
  refine alB zL ?_
  intro g7 w7 hg7 hB7 h7
  refine stB (cells := #[.slice none 0 0, .int .i64 a.1, .slice none 0 0]) hB7 szL rfl (by simp [Value.oneCell']) ?_
  intro w8 hB8 hT8
  have h8 : Below w6.heap.size w6 w8 := below_own h7 hT8 (by omega)
  have L8 : LineAt ws w8 g g7 v bs a.2 (.slice none 0 0) (.slice none 0 0) [] a.1 [] :=
    ⟨R6.below h8, hB8, by have := T6.size; omega, Own.nil 3 w8, Fresh.nil _, OwnA.nil _ _, T6.then_below h8⟩
  refine (num44 2 (by omega) L8.rdr (by omega)).mono ?_
  rintro _ w9 ⟨rfl, R9, T9⟩
  have L9 := L8.reads hgs R9 T9
  generalize hb : rNum bs 2 a.2 = b at *
  have hb2m : b.2.2 = false → b.1 ≤ 2 := fun e => by rw [← hb] at e ⊢; exact rNum_most e
  -- its fields
  refine LoopP.inv1 (fun kv w' => ∃ (kr : Nat) (fs : List Int) (z' : St) (vf : Value), kv = .int .i64 kr ∧ fs.length + kr = b.1 ∧ (z'.2 = false → b.1 ≤ 2) ∧ rFields bs b.1 b.2 = (fs ++ (rFields bs kr z').1, (rFields bs kr z').2) ∧ LineAt ws w' g g7 v bs z' vf (.slice none 0 0) fs a.1 []) (fun kv _ => (intOf kv).toNat)
    ⟨b.1, [], b.2, _, rfl, by simp, hb2m, rfl, L9⟩ ?_
  clear L9 L8 R9 T9 R6 T6 hT8 hB8 h8 h7 hB7
  rintro _ wa ⟨kr, fs, z', vf, rfl, hlen, hb2, hrF, La⟩ J1 hJ1
  dsimp only [List.headD_cons, List.tail_cons]
  have ca : wa.cell? ⟨g, 2, none⟩ = some (.bool z'.2) := La.rdr.blk.cell 2
  have hstop : (kr = 0 ∨ z'.2 = true) ∨ (0 < kr ∧ z'.2 = false) := by
    cases h2 : z'.2 with
    | true => exact .inl (.inr rfl)
    | false =>
      rcases Nat.eq_zero_or_pos kr with h | h
      · exact .inl (.inl h)
      · exact .inr ⟨h, rfl⟩
  rcases hstop with hstop | ⟨hkr, hz'⟩
  rotate_left
  · rw [hz'] at ca
    have hb1' := hb2 hz'
    (repeat with_reducible first | refine fd rd2 (by decide) ?_| refine ld oneBo ca ?_|refine z_a ?_|refine z_b ?_|refine z_c ?_|refine z_d ?_|refine z_e ?_|refine z_f ?_|refine z_g ?_|refine z_h ?_|refine z_i ?_|refine z_j ?_|refine z_k ?_|refine z_l ?_|refine z_m (by omega) ?_|refine z_n (by omega) ?_|refine z_o (by omega) ?_|refine z_p (by omega) ?_|refine z_q (by omega) ?_|refine z_r (by omega) ?_|refine z_s (by omega) ?_|refine z_t (by omega) ?_|refine z_u (by omega) ?_|refine z_v (by omega) ?_|refine z_w (by omega) ?_|refine z_x (by omega) ?_|refine z_y (by omega) ?_|refine z_z (by omega) ?_|refine z_A ?_|refine z_B ?_|refine z_C ?_|refine z_D ?_|refine z_E ?_|refine z_F ?_|refine z_G ?_|refine z_H ?_|refine z_I ?_)
    have hdr : Below wa.heap.size wa wa.drew := (Below.refl _ _).drew
    have Ld := La.below hdr
    have kS : ∀ w' : World, w'.cell? ⟨g7, 0, none⟩ = some vf → w'.cell? ⟨g7, 0, none⟩ = some vf := fun _ h => h
    refine draw (fun w' : World => w'.cell? ⟨g7, 0, none⟩ = some vf) (Ld.blk.cell 0) ?_
    generalize wa.drew = wd at *
    (repeat with_reducible first | refine yfd l0 (by decide) ?_| refine yl1 oneIs kS ?_|refine z_J ?_|refine z_a ?_|refine z_b ?_|refine z_c ?_|refine z_d ?_|refine z_e ?_|refine z_f ?_|refine z_g ?_|refine z_h ?_|refine z_i ?_|refine z_j ?_|refine z_k ?_|refine z_l ?_|refine z_K (by omega) ?_|refine z_L (by omega) ?_|refine z_M (by omega) ?_|refine z_N (by omega) ?_|refine z_O (by omega) ?_|refine z_P (by omega) ?_|refine z_Q (by omega) ?_|refine z_R (by omega) ?_|refine z_S (by omega) ?_|refine z_T (by omega) ?_|refine z_U (by omega) ?_|refine z_V (by omega) ?_|refine z_W (by omega) ?_|refine z_X (by omega) ?_|refine z_Y ?_|refine z_Z ?_|refine z_a1 ?_|refine z_b1 ?_|refine z_c1 ?_|refine z_d1 ?_|refine z_e1 ?_|refine z_f1 ?_|refine z_g1 ?_)
    refine act ?_
    refine (num44 4 (by omega) Ld.rdr (by omega)).mono ?_
    rintro _ wb ⟨rfl, Rb, Tb⟩
    have Lb := Ld.reads hgs Rb Tb
    refine ⟨_, Lb.blk.cell 0, fun _ h => h, ?_⟩
    have hfl : (iV fs).length ≤ 100 := by rw [List.length_map]; omega
    refine apOneB (x := .int .i64 (rNum bs 4 z').1) (us := [.int .i64 (rNum bs 4 z').1]) undIs infI (by rfl) (by decide) Lb.fo rfl (fun u hu => by simp only [List.mem_cons, List.not_mem_nil, or_false] at hu; rw [hu]; rfl) (by omega) (by omega) (bI1 wb _) (fun w' hb => (Lb.blk.below' hb).cell 0) ?_
    intro vf' wc hoc hblc hTc
    have hfresh : ∀ k, vf.ownBlock = some k → ws.heap.size ≤ k := La.ff
    have hbsz : ws.heap.size ≤ wb.heap.size := Lb.T.size
    have hff' : Fresh ws.heap.size vf' := fun k hk => by
      rcases hblc with e | ⟨q, e, hq⟩
      · rw [e] at hk; exact hfresh k hk
      · rw [e] at hk; cases hk; omega
    have hoc' : Own 3 wc vf' (iV (fs ++ [((rNum bs 4 z').1 : Int)])) := by
      have e : iV (fs ++ [((rNum bs 4 z').1 : Int)]) = iV fs ++ [.int .i64 ((rNum bs 4 z').1 : Int)] := by simp [iV]
      rw [e]
      unfold Own
      rw [List.length_append]
      exact hoc
    have hBc : Blk wc g7 69 #[vf, .int .i64 a.1, .slice none 0 0] := Lb.blk.turns hTc fun e => bd_ne Lb.fo Lb.blk (by decide) e rfl
    refine ⟨_, hBc.cell 0, fun _ h => h, ?_⟩
    have hT2 := Turns.setCell (F := fun j => j = g7) (p := ⟨g7, 0, none⟩) (Turns.refl _ wc) (.inl rfl) vf'
    (repeat with_reducible first | refine yfd l0 (by decide) ?_|refine z_J ?_|refine z_a ?_|refine z_b ?_|refine z_c ?_|refine z_d ?_|refine z_e ?_|refine z_f ?_|refine z_g ?_|refine z_h ?_|refine z_i ?_|refine z_j ?_|refine z_k ?_|refine z_l ?_|refine z_K (by omega) ?_|refine z_L (by omega) ?_|refine z_M (by omega) ?_|refine z_N (by omega) ?_|refine z_O (by omega) ?_|refine z_P (by omega) ?_|refine z_Q (by omega) ?_|refine z_R (by omega) ?_|refine z_S (by omega) ?_|refine z_T (by omega) ?_|refine z_U (by omega) ?_|refine z_V (by omega) ?_|refine z_W (by omega) ?_|refine z_X (by omega) ?_|refine z_Y ?_|refine z_Z ?_|refine z_a1 ?_|refine z_b1 ?_|refine z_c1 ?_|refine z_d1 ?_|refine z_e1 ?_|refine z_f1 ?_|refine z_g1 ?_)
    refine st szIs (own1 hoc') (by rw [hBc.cell 0]; rfl) (hBc.frozen 0) ?_
    have h7 := La.g7
    have hTall : Turns (fun k => vf.ownBlock = some k ∨ k = g7) wb (wc.setCell ⟨g7, 0, none⟩ vf') := (hTc.mono fun _ _ e => .inl e).trans (hT2.mono fun _ _ e => .inl (.inr e))
    have Lc : LineAt ws (wc.setCell ⟨g7, 0, none⟩ vf') g g7 v bs (rNum bs 4 z').2 vf' (.slice none 0 0) (fs ++ [((rNum bs 4 z').1 : Int)]) a.1 [] :=
      ⟨Lb.rdr.turns hTall (fun e => e.elim (fun e => by have := hfresh _ e; omega) (fun e => by omega)) (hvs.imp id fun hh q hq e => e.elim (fun e => by have := hh q hq; have := hfresh _ e; omega) (fun e => by have := hh q hq; omega)),
        hBc.set_ 0 vf', h7, ownsRow_turns hoc' hT2 fun k hk e => bd_ne hoc' hBc (by decide) hk e.symm, hff', OwnA.nil _ _, Lb.T.trans (hTall.mono fun k _ e => .inr (e.elim (fun e => hfresh _ e) (fun e => by omega)))⟩
    (repeat with_reducible first|refine z_a ?_|refine z_b ?_|refine z_c ?_|refine z_d ?_|refine z_e ?_|refine z_f ?_|refine z_g ?_|refine z_h ?_|refine z_i ?_|refine z_j ?_|refine z_k ?_|refine z_l ?_|refine z_m (by omega) ?_|refine z_n (by omega) ?_|refine z_o (by omega) ?_|refine z_p (by omega) ?_|refine z_q (by omega) ?_|refine z_r (by omega) ?_|refine z_s (by omega) ?_|refine z_t (by omega) ?_|refine z_u (by omega) ?_|refine z_v (by omega) ?_|refine z_w (by omega) ?_|refine z_x (by omega) ?_|refine z_y (by omega) ?_|refine z_z (by omega) ?_|refine z_A ?_|refine z_B ?_|refine z_C ?_|refine z_D ?_|refine z_E ?_|refine z_F ?_|refine z_G ?_|refine z_H ?_|refine z_I ?_)
    refine hJ1 _ _ ⟨kr - 1, _, _, vf', by rw [show ((kr : Int) - 1) = ((kr - 1 : Nat) : Int) by omega], by rw [List.length_append]; simp; omega, fun _ => hb1', ?_, Lc⟩ (by simp only [intOf]; omega)
    rw [hrF]
    obtain ⟨m, rfl⟩ : ∃ m, kr = m + 1 := ⟨kr - 1, by omega⟩
    rw [rFields, if_neg (by rw [hz']; simp)]
    simp
  have hrF' : rFields bs b.1 b.2 = (fs, z') := by rw [hrF, rFields_stop hstop]; simp
  clear hrF
  have cz : wa.cell? ⟨g, 2, none⟩ = some (.bool z'.2) := La.rdr.blk.cell 2
  refine bi_gtr ?_
  refine loopStop (hstop.imp (fun h => decide_eq_false (by omega)) (fun h => by rw [cz, h])) ?_
  (repeat with_reducible first|refine z_a ?_|refine z_b ?_|refine z_c ?_|refine z_d ?_|refine z_e ?_|refine z_f ?_|refine z_g ?_|refine z_h ?_|refine z_i ?_|refine z_j ?_|refine z_k ?_|refine z_l ?_|refine z_m (by omega) ?_|refine z_n (by omega) ?_|refine z_o (by omega) ?_|refine z_p (by omega) ?_|refine z_q (by omega) ?_|refine z_r (by omega) ?_|refine z_s (by omega) ?_|refine z_t (by omega) ?_|refine z_u (by omega) ?_|refine z_v (by omega) ?_|refine z_w (by omega) ?_|refine z_x (by omega) ?_|refine z_y (by omega) ?_|refine z_z (by omega) ?_|refine z_A ?_|refine z_B ?_|refine z_C ?_|refine z_D ?_|refine z_E ?_|refine z_F ?_|refine z_G ?_|refine z_H ?_|refine z_I ?_)
  clear hJ1
  refine (texts45 La.rdr (by omega)).mono ?_
  rintro x wb ⟨hox, hfx, Rb, Tb⟩
  have Lb := La.reads hgs Rb Tb
  have htl := rTexts_len (bs := bs) (st := z') La.rdr.le
  generalize ht : rTexts bs z' = t at *
  have hsl' : (strs t.1).length = t.1.length := List.length_map _
  -- its ranges
  refine LoopP.inv1 (fun ev w' => ∃ (j : Nat) (vr : Value), 2 * j ≤ t.1.length ∧ lenOf ev = t.1.length - 2 * j ∧ (∀ w'', Own 9 w'' x (strs t.1) → Rd w'' ev (strs (t.1.drop (2 * j)))) ∧ Own 9 w' x (strs t.1) ∧ LineAt ws w' g g7 v bs t.2 vf vr fs a.1 (pairsT (t.1.take (2 * j)))) (fun ev _ => lenOf ev)
    ⟨0, .slice none 0 0, by omega, by obtain ⟨A, c, e⟩ := hox.slice; rw [e]; show (strs t.1).length = _; rw [hsl']; rfl, fun w'' h => h.rd, hox, Lb⟩ ?_
  clear Lb La Tb Rb hox
  rintro ev wc ⟨j, vr, hj, hle, hE, hox, Lc⟩ J2 hJ2
  dsimp only [List.headD_cons, List.tail_cons]
  obtain ⟨Ae, ce, rfl, hce1, hce2⟩ := (hE wc hox).slice
  have hdl : (strs (t.1.drop (2 * j))).length = t.1.length - 2 * j := by
    unfold strs
    rw [List.length_map, List.length_drop]
  rw [hdl] at hce1 ⊢
  rw [hdl] at hE
  refine ln undTx ?_
  refine bi_gtr_c (fun hgt => ?_) (fun hgt => ?_)
  · have hj1 : 2 * j + 1 < t.1.length := by omega
    have hin : ∀ i, i < 2 → ∃ q : Addr, Ae = some q ∧ ∀ w'', Own 9 w'' x (strs t.1) → w''.cell? (q.add i) = some (tS ((t.1.drop (2 * j)).getD i [])) := fun i hi => by
      have hil : i < (strs (t.1.drop (2 * j))).length := by rw [hdl]; omega
      have val : (strs (t.1.drop (2 * j)))[i] = tS ((t.1.drop (2 * j)).getD i []) := by
        have : i < (t.1.drop (2 * j)).length := by rw [List.length_drop]; omega
        rw [strs_get, List.getD_eq_getElem?_getD, List.getElem?_eq_getElem this]
        rfl
      obtain ⟨q, hq, _⟩ := (hE wc hox).at i hil
      refine ⟨q, hq, fun w'' h => ?_⟩
      obtain ⟨q', hq', hc'⟩ := (hE w'' h).at i hil
      rw [hq] at hq'
      cases hq'
      rw [hc', val]
    obtain ⟨q, rfl, hq0⟩ := hin 0 (by omega)
    obtain ⟨q', hq', hq1⟩ := hin 1 (by omega)
    cases hq'
    have e0 : (t.1.drop (2 * j)).getD 0 [] = t.1[2 * j] := by
      rw [List.getD_eq_getElem?_getD, List.getElem?_drop, Nat.add_zero, List.getElem?_eq_getElem (by omega)]; rfl
    have e1 : (t.1.drop (2 * j)).getD 1 [] = t.1[2 * j + 1] := by
      rw [List.getD_eq_getElem?_getD, List.getElem?_drop, List.getElem?_eq_getElem (by omega)]; rfl
    rw [e0] at hq0
    rw [e1] at hq1
    have hdr : Below wc.heap.size wc wc.drew := (Below.refl _ _).drew
    have Ld := Lc.below hdr
    have hoxd := hox.below hdr
    have kS : ∀ w' : World, (w'.cell? ⟨g7, 2, none⟩ = some vr ∧ Own 9 w' x (strs t.1)) → w'.cell? ⟨g7, 2, none⟩ = some vr := fun _ h => h.1
    have kq0 : ∀ w' : World, (w'.cell? ⟨g7, 2, none⟩ = some vr ∧ Own 9 w' x (strs t.1)) → w'.cell? (q.add 0) = some (tS t.1[2 * j]) := fun _ h => hq0 _ h.2
    have kq1 : ∀ w' : World, (w'.cell? ⟨g7, 2, none⟩ = some vr ∧ Own 9 w' x (strs t.1)) → w'.cell? (q.add 1) = some (tS t.1[2 * j + 1]) := fun _ h => hq1 _ h.2
    (repeat with_reducible first|refine z_a ?_|refine z_b ?_|refine z_c ?_|refine z_d ?_|refine z_e ?_|refine z_f ?_|refine z_g ?_|refine z_h ?_|refine z_i ?_|refine z_j ?_|refine z_k ?_|refine z_l ?_|refine z_m (by omega) ?_|refine z_n (by omega) ?_|refine z_o (by omega) ?_|refine z_p (by omega) ?_|refine z_q (by omega) ?_|refine z_r (by omega) ?_|refine z_s (by omega) ?_|refine z_t (by omega) ?_|refine z_u (by omega) ?_|refine z_v (by omega) ?_|refine z_w (by omega) ?_|refine z_x (by omega) ?_|refine z_y (by omega) ?_|refine z_z (by omega) ?_|refine z_A ?_|refine z_B ?_|refine z_C ?_|refine z_D ?_|refine z_E ?_|refine z_F ?_|refine z_G ?_|refine z_H ?_|refine z_I ?_)
    refine draw (fun w' : World => w'.cell? ⟨g7, 2, none⟩ = some vr ∧ Own 9 w' x (strs t.1)) ⟨Ld.blk.cell 2, hoxd⟩ ?_
    generalize wc.drew = wd at *
    (repeat with_reducible first | refine yfd l2 (by decide) ?_| refine yl1 oneRgs kS ?_|refine z_J ?_|refine z_a ?_|refine z_b ?_|refine z_c ?_|refine z_d ?_|refine z_e ?_|refine z_f ?_|refine z_g ?_|refine z_h ?_|refine z_i ?_|refine z_j ?_|refine z_k ?_|refine z_l ?_|refine z_K (by omega) ?_|refine z_L (by omega) ?_|refine z_M (by omega) ?_|refine z_N (by omega) ?_|refine z_O (by omega) ?_|refine z_P (by omega) ?_|refine z_Q (by omega) ?_|refine z_R (by omega) ?_|refine z_S (by omega) ?_|refine z_T (by omega) ?_|refine z_U (by omega) ?_|refine z_V (by omega) ?_|refine z_W (by omega) ?_|refine z_X (by omega) ?_|refine z_Y ?_|refine z_Z ?_|refine z_a1 ?_|refine z_b1 ?_|refine z_c1 ?_|refine z_d1 ?_|refine z_e1 ?_|refine z_f1 ?_|refine z_g1 ?_)
    refine yix1 undTx szT9 0 (by omega) ?_
    refine yl1 oneT9 kq0 ?_
    refine yix1 undTx szT9 1 (by omega) ?_
    refine yl1 oneT9 kq1 ?_
    refine ybd (cells := rgA (t.1[2 * j], t.1[2 * j + 1])) (by kernel_rfl) ?_
    have hpl : (pairsT (t.1.take (2 * j))).length ≤ t.1.length := by
      have := ends_len (pairsT (t.1.take (2 * j)))
      rw [ends_pairs _ (by rw [List.length_take]; omega), List.length_take] at this
      omega
    refine apOneA (us := rgF (t.1[2 * j], t.1[2 * j + 1])) und26 inf23 (by rfl) (by decide) Ld.ro.1 (rgF_len _) (rgF_one _) (by omega) (by omega) (by kernel_rfl) (fun w' hb => ⟨(Ld.blk.below' hb).cell 2, hoxd.below hb⟩) ?_
    intro vr' we hoe hble hTe
    have hrf : ∀ k, vr.ownBlock = some k → ws.heap.size ≤ k := Ld.ro.2
    have hdsz : ws.heap.size ≤ wd.heap.size := Ld.T.size
    have hfr' : Fresh ws.heap.size vr' := fun k hk => by
      rcases hble with e | ⟨q, e, hq⟩
      · rw [e] at hk; exact hrf k hk
      · rw [e] at hk; cases hk; omega
    have hoe' : OwnA ws.heap.size we vr' (pairsT (t.1.take (2 * (j + 1)))) := by
      rw [pairs_two t.1 j hj1]
      refine ⟨?_, hfr'⟩
      have e : (pairsT (t.1.take (2 * j)) ++ [(t.1[2 * j], t.1[2 * j + 1])]).length = (pairsT (t.1.take (2 * j))).length + 1 := by simp
      rw [e, List.flatMap_append]
      simpa using hoe
    have hBe : Blk we g7 69 #[vf, .int .i64 a.1, vr] := Ld.blk.turns hTe fun e => bd_ne Ld.ro.1 Ld.blk (by decide) e rfl
    have hoxe : Own 9 we x (strs t.1) := ownsRow_turns hoxd hTe fun k hk e => ty_ne (OwnR.of_own Ld.ro.1) hoxd (by decide) e hk
    refine ⟨_, ⟨hBe.cell 2, hoxe⟩, fun _ h => h, ?_⟩
    have hT2 := Turns.setCell (F := fun k => k = g7) (p := ⟨g7, 2, none⟩) (Turns.refl _ we) (.inl rfl) vr'
    (repeat with_reducible first | refine yfd l2 (by decide) ?_|refine z_J ?_|refine z_a ?_|refine z_b ?_|refine z_c ?_|refine z_d ?_|refine z_e ?_|refine z_f ?_|refine z_g ?_|refine z_h ?_|refine z_i ?_|refine z_j ?_|refine z_k ?_|refine z_l ?_|refine z_K (by omega) ?_|refine z_L (by omega) ?_|refine z_M (by omega) ?_|refine z_N (by omega) ?_|refine z_O (by omega) ?_|refine z_P (by omega) ?_|refine z_Q (by omega) ?_|refine z_R (by omega) ?_|refine z_S (by omega) ?_|refine z_T (by omega) ?_|refine z_U (by omega) ?_|refine z_V (by omega) ?_|refine z_W (by omega) ?_|refine z_X (by omega) ?_|refine z_Y ?_|refine z_Z ?_|refine z_a1 ?_|refine z_b1 ?_|refine z_c1 ?_|refine z_d1 ?_|refine z_e1 ?_|refine z_f1 ?_|refine z_g1 ?_)
    refine st szRgs (own1 hoe'.1) (by rw [hBe.cell 2]; rfl) (hBe.frozen 2) ?_
    have h7 := Lc.g7
    have hTall : Turns (fun k => vr.ownBlock = some k ∨ k = g7) wd (we.setCell ⟨g7, 2, none⟩ vr') := (hTe.mono fun _ _ e => .inl e).trans (hT2.mono fun _ _ e => .inl (.inr e))
    have hfo' : Own 3 (we.setCell ⟨g7, 2, none⟩ vr') vf (iV fs) := ownsRow_turns Ld.fo hTall fun k hk e => e.elim (fun e => ty_ne (OwnR.of_own Ld.ro.1) Ld.fo (by decide) e hk) (fun e => bd_ne Ld.fo Ld.blk (by decide) hk e.symm)
    have Le : LineAt ws (we.setCell ⟨g7, 2, none⟩ vr') g g7 v bs t.2 vf vr' fs a.1 (pairsT (t.1.take (2 * (j + 1)))) :=
      ⟨Ld.rdr.turns hTall (fun e => e.elim (fun e => by have := hrf _ e; omega) (fun e => by omega)) (hvs.imp id fun hh q hq e => e.elim (fun e => by have := hh q hq; have := hrf _ e; omega) (fun e => by have := hh q hq; omega)),
        hBe.set_ 2 vr', h7, hfo', Ld.ff, ⟨ownsRow_turns hoe'.1 hT2 fun k hk e => bd_ne hoe'.1 hBe (by decide) hk e.symm, hfr'⟩, Ld.T.trans (hTall.mono fun k _ e => .inr (e.elim (fun e => hrf _ e) (fun e => by omega)))⟩
    have hox2 : Own 9 (we.setCell ⟨g7, 2, none⟩ vr') x (strs t.1) := ownsRow_turns hoxe hT2 fun k hk e => bd_ne hoxe hBe (by decide) hk e.symm
    refine ofPR (pr_cut undTx szT9 (l := 2) (.at .i64 2) .no .no (show 2 ≤ t.1.length - 2 * j by omega) (fun _ => by omega) hce1 (Nat.le_refl _) (.inl rfl)) ?_
    refine hJ2 _ _ ⟨j + 1, vr', by omega, by rw [lenOf_sliced]; omega, fun w'' h => ?_, hox2, Le⟩ (by rw [lenOf_sliced, lenOf_slice, hdl]; omega)
    have := sliced_rd (hE w'' h) (l := 2) (k := t.1.length - 2 * j) (m := ce) (by omega) (by rw [hdl]; exact Nat.le_refl _) hce1 (Nat.le_refl _)
    rw [List.take_of_length_le (by rw [hdl]; exact Nat.le_refl _)] at this
    have e2 : (strs (t.1.drop (2 * j))).drop 2 = strs (t.1.drop (2 * (j + 1))) := by
      unfold strs
      rw [← List.map_drop, List.drop_drop]
      congr 2
    rw [e2] at this
    exact this
  -- what is wrong with it
  have hrs : pairsT (t.1.take (2 * j)) = pairsT t.1 := pairs_rest t.1 j hj (by omega)
  rw [hrs] at Lc
  clear hJ2 hox hE
  have hn01 : (t.1.length - 2 * j = 1 ∧ t.1.length % 2 = 1) ∨ (t.1.length - 2 * j = 0 ∧ ¬ t.1.length % 2 = 1) := by omega
  have cl0 : wc.cell? ⟨g7, 0, none⟩ = some vf := Lc.blk.cell 0
  have cl1 : wc.cell? ⟨g7, 1, none⟩ = some (.int .i64 a.1) := Lc.blk.cell 1
  obtain ⟨Af, cf, hvf⟩ := Lc.fo.slice
  have hfsl : (iV fs).length = fs.length := List.length_map _
  rw [hfsl] at hvf
  rw [hvf] at cl0
  have hffr : Rd wc (.slice Af fs.length cf) (iV fs) := by rw [← hvf]; exact Lc.fo.rd
  have hfnil : fs = [] ↔ fs.length = 0 := List.length_eq_zero_iff.symm
  have h5 : (t.1.length - 2 * j = 1 ∧ wrong1 ⟨fs, a.1, pairsT t.1⟩ (decide (t.1.length % 2 = 1))) ∨ (t.1.length - 2 * j = 0 ∧ (a.1 : Int) = 3 ∧ 0 < fs.length ∧ wrong1 ⟨fs, a.1, pairsT t.1⟩ (decide (t.1.length % 2 = 1))) ∨
      (t.1.length - 2 * j = 0 ∧ (a.1 : Int) = 3 ∧ fs.length = 0 ∧ ¬ wrong1 ⟨fs, a.1, pairsT t.1⟩ (decide (t.1.length % 2 = 1))) ∨ (t.1.length - 2 * j = 0 ∧ ¬ (a.1 : Int) = 3 ∧ ckI fs ≠ 0 ∧ wrong1 ⟨fs, a.1, pairsT t.1⟩ (decide (t.1.length % 2 = 1))) ∨
      (t.1.length - 2 * j = 0 ∧ ¬ (a.1 : Int) = 3 ∧ ckI fs = 0 ∧ ¬ wrong1 ⟨fs, a.1, pairsT t.1⟩ (decide (t.1.length % 2 = 1))) := by
    unfold wrong1
    simp only [decide_eq_true_eq]
    by_cases h3 : (a.1 : Int) = 3
    · by_cases hf : fs = []
      · have := hfnil.1 hf
        grind
      · have : 0 < fs.length := List.length_pos_iff.2 hf
        grind
    · grind
  (repeat with_reducible first|refine z_a ?_|refine z_b ?_|refine z_c ?_|refine z_d ?_|refine z_e ?_|refine z_f ?_|refine z_g ?_|refine z_h ?_|refine z_i ?_|refine z_j ?_|refine z_k ?_|refine z_l ?_|refine z_m (by omega) ?_|refine z_n (by omega) ?_|refine z_o (by omega) ?_|refine z_p (by omega) ?_|refine z_q (by omega) ?_|refine z_r (by omega) ?_|refine z_s (by omega) ?_|refine z_t (by omega) ?_|refine z_u (by omega) ?_|refine z_v (by omega) ?_|refine z_w (by omega) ?_|refine z_x (by omega) ?_|refine z_y (by omega) ?_|refine z_z (by omega) ?_|refine z_A ?_|refine z_B ?_|refine z_C ?_|refine z_D ?_|refine z_E ?_|refine z_F ?_|refine z_G ?_|refine z_H ?_|refine z_I ?_)
  refine ln undTx ?_
  rcases h5 with ⟨hn, hw1⟩ | ⟨hn, h3, hf0, hw1⟩ | ⟨hn, h3, hf0, hw1⟩ | ⟨hn, h3, hf0, hw1⟩ | ⟨hn, h3, hf0, hw1⟩
  all_goals
    first
      | ((repeat with_reducible first | refine fd l1 (by decide) ?_| refine ld oneI cl1 ?_| refine fd l0 (by decide) ?_| refine ld oneIs cl0 ?_| refine ln undIs ?_|refine z_a ?_|refine z_b ?_|refine z_c ?_|refine z_d ?_|refine z_e ?_|refine z_f ?_|refine z_g ?_|refine z_h ?_|refine z_i ?_|refine z_j ?_|refine z_k ?_|refine z_l ?_|refine z_m (by omega) ?_|refine z_n (by omega) ?_|refine z_o (by omega) ?_|refine z_p (by omega) ?_|refine z_q (by omega) ?_|refine z_r (by omega) ?_|refine z_s (by omega) ?_|refine z_t (by omega) ?_|refine z_u (by omega) ?_|refine z_v (by omega) ?_|refine z_w (by omega) ?_|refine z_x (by omega) ?_|refine z_y (by omega) ?_|refine z_z (by omega) ?_|refine z_A ?_|refine z_B ?_|refine z_C ?_|refine z_D ?_|refine z_E ?_|refine z_F ?_|refine z_G ?_|refine z_H ?_|refine z_I ?_)
         refine bd (cells := #[.int .i64 1, .slice Af fs.length cf]) (by kernel_rfl) ?_
         (repeat with_reducible first|refine z_a ?_|refine z_b ?_|refine z_c ?_|refine z_d ?_|refine z_e ?_|refine z_f ?_|refine z_g ?_|refine z_h ?_|refine z_i ?_|refine z_j ?_|refine z_k ?_|refine z_l ?_|refine z_m (by omega) ?_|refine z_n (by omega) ?_|refine z_o (by omega) ?_|refine z_p (by omega) ?_|refine z_q (by omega) ?_|refine z_r (by omega) ?_|refine z_s (by omega) ?_|refine z_t (by omega) ?_|refine z_u (by omega) ?_|refine z_v (by omega) ?_|refine z_w (by omega) ?_|refine z_x (by omega) ?_|refine z_y (by omega) ?_|refine z_z (by omega) ?_|refine z_A ?_|refine z_B ?_|refine z_C ?_|refine z_D ?_|refine z_E ?_|refine z_F ?_|refine z_G ?_|refine z_H ?_|refine z_I ?_)
         refine (CheckIndex27 1 _ fs wc hffr).mono ?_
         rintro _ wd ⟨rfl, hd⟩
         rw [ckX_in (by omega)]
         have Ld := Lc.below hd
         (repeat with_reducible first|refine z_a ?_|refine z_b ?_|refine z_c ?_|refine z_d ?_|refine z_e ?_|refine z_f ?_|refine z_g ?_|refine z_h ?_|refine z_i ?_|refine z_j ?_|refine z_k ?_|refine z_l ?_|refine z_m (by omega) ?_|refine z_n (by omega) ?_|refine z_o (by omega) ?_|refine z_p (by omega) ?_|refine z_q (by omega) ?_|refine z_r (by omega) ?_|refine z_s (by omega) ?_|refine z_t (by omega) ?_|refine z_u (by omega) ?_|refine z_v (by omega) ?_|refine z_w (by omega) ?_|refine z_x (by omega) ?_|refine z_y (by omega) ?_|refine z_z (by omega) ?_|refine z_A ?_|refine z_B ?_|refine z_C ?_|refine z_D ?_|refine z_E ?_|refine z_F ?_|refine z_G ?_|refine z_H ?_|refine z_I ?_))
      | ((repeat with_reducible first | refine fd l1 (by decide) ?_| refine ld oneI cl1 ?_| refine fd l0 (by decide) ?_| refine ld oneIs cl0 ?_| refine ln undIs ?_|refine z_a ?_|refine z_b ?_|refine z_c ?_|refine z_d ?_|refine z_e ?_|refine z_f ?_|refine z_g ?_|refine z_h ?_|refine z_i ?_|refine z_j ?_|refine z_k ?_|refine z_l ?_|refine z_m (by omega) ?_|refine z_n (by omega) ?_|refine z_o (by omega) ?_|refine z_p (by omega) ?_|refine z_q (by omega) ?_|refine z_r (by omega) ?_|refine z_s (by omega) ?_|refine z_t (by omega) ?_|refine z_u (by omega) ?_|refine z_v (by omega) ?_|refine z_w (by omega) ?_|refine z_x (by omega) ?_|refine z_y (by omega) ?_|refine z_z (by omega) ?_|refine z_A ?_|refine z_B ?_|refine z_C ?_|refine z_D ?_|refine z_E ?_|refine z_F ?_|refine z_G ?_|refine z_H ?_|refine z_I ?_)
         have Ld := Lc
         clear hffr cl0 cl1 Lc
         generalize wc = wd at *)
    refine JoinP.cut (fun xs w' => xs = [] ∧ LineAt ws w' g g7 v bs (t.2.1, t.2.2 || decide (wrongL ⟨fs, a.1, pairsT t.1⟩ (decide (t.1.length % 2 = 1)))) vf vr fs a.1 (pairsT t.1)) (fun J3 hJ3 => ?_) (fun xs w' hI => ?_)
    rotate_left
    · obtain ⟨rfl, Lf⟩ := hI
      have hline : rLine bs z = (⟨fs, a.1, pairsT t.1⟩, t.2.1, t.2.2 || decide (wrongL ⟨fs, a.1, pairsT t.1⟩ (decide (t.1.length % 2 = 1)))) := by
        have hlo : lineOf bs z = (⟨fs, a.1, pairsT t.1⟩, t.1, t.2) := by
          unfold lineOf
          simp only [ha, hb, hrF', ht]
        unfold rLine
        simp only [hlo]
      have h9l := col_lt cc ws.heap.size 999
      have hcg : col cc ws.heap.size 999 g = 0 := by rw [h9l g hgs]; exact hlow g hg2
      have hSB : BdS hu (col cc ws.heap.size 999) w' gB V := (S5.re h9l).turns Lf.T.cut fun k hk => by rw [show k = g from hk.1, hcg]; omega
      obtain ⟨vL, M, hA, hV⟩ := hSB
      have hM : LmAt (col cc ws.heap.size 999) w' ⟨vf, vr, ⟨fs, a.1, pairsT t.1⟩⟩ := ⟨own_OwnR1 Lf.fo, fun b hb => col_ge _ _ _ (Lf.ff b hb), OwnR.of_own Lf.ro.1, fun b hb => col_ge _ _ _ (Lf.ro.2 b hb)⟩
      have h79 : col cc ws.heap.size 999 g7 = 999 := col_ge _ _ _ Lf.g7
      have hlow9 : ∀ k, k < w2.heap.size → col cc ws.heap.size 999 k = 0 := fun k hk => (h9l k (by omega)).trans (hlow k hk)
      have hcl9 : ∀ k, k < ws.heap.size → col cc ws.heap.size 999 k = cc k := h9l
      generalize col cc ws.heap.size 999 = c9 at *
      have hdr : Below w'.heap.size w' w'.drew := (Below.refl _ _).drew
      have Lg := Lf.below hdr
      have hAd := hA.below hdr
      have hMd := hM.below hdr
      have kS : ∀ y : World, (y.cell? ⟨gB, 0, none⟩ = some vL ∧ Blk y g7 69 #[vf, .int .i64 a.1, vr]) → y.cell? ⟨gB, 0, none⟩ = some vL := fun _ h => h.1
      have kB : ∀ y : World, (y.cell? ⟨gB, 0, none⟩ = some vL ∧ Blk y g7 69 #[vf, .int .i64 a.1, vr]) → Blk y g7 69 #[vf, .int .i64 a.1, vr] := fun _ h => h.2
      have hml : M.length ≤ 100000 := by
        have h1 := hA.slice
        have h2 : V.length ≤ 6 := by have := hVk hst; omega
        rw [← absB_len, hV]; omega
      refine draw (fun y : World => y.cell? ⟨gB, 0, none⟩ = some vL ∧ Blk y g7 69 #[vf, .int .i64 a.1, vr]) ⟨hAd.blk.cell 0, Lg.blk⟩ ?_
      have hTd : Turns (fun k => c9 k = hu) w' w'.drew := Turns.of_below hdr
      generalize w'.drew = we at *
      (repeat with_reducible first | refine yfd b0 (by decide) ?_| refine yl1 oneLs kS ?_|refine z_J ?_|refine z_a ?_|refine z_b ?_|refine z_c ?_|refine z_d ?_|refine z_e ?_|refine z_f ?_|refine z_g ?_|refine z_h ?_|refine z_i ?_|refine z_j ?_|refine z_k ?_|refine z_l ?_|refine z_K (by omega) ?_|refine z_L (by omega) ?_|refine z_M (by omega) ?_|refine z_N (by omega) ?_|refine z_O (by omega) ?_|refine z_P (by omega) ?_|refine z_Q (by omega) ?_|refine z_R (by omega) ?_|refine z_S (by omega) ?_|refine z_T (by omega) ?_|refine z_U (by omega) ?_|refine z_V (by omega) ?_|refine z_W (by omega) ?_|refine z_X (by omega) ?_|refine z_Y ?_|refine z_Z ?_|refine z_a1 ?_|refine z_b1 ?_|refine z_c1 ?_|refine z_d1 ?_|refine z_e1 ?_|refine z_f1 ?_|refine z_g1 ?_)
      refine yldA aggL kB szL ?_
      obtain ⟨A1, c1', e1⟩ := Lg.fo.slice
      obtain ⟨A2, c2', e2⟩ := Lg.ro.slice
      rw [e1, e2]
      refine apOneA (us := [.slice A1 (iV fs).length c1', .int .i64 a.1, .slice A2 (pairsT t.1).length c2']) undLs infL (by rfl) (by decide) hAd.row rfl (fun x hx => by
        simp only [List.mem_cons, List.not_mem_nil, or_false] at hx
        rcases hx with rfl | rfl | rfl <;> rfl) (by omega) (by omega) (by kernel_rfl) (fun y hb => ⟨(hAd.below hb).blk.cell 0, by rw [← e1, ← e2]; exact Lg.blk.below' hb⟩) ?_
      intro v6 w6 ho6 hbl6 hT6
      rw [← e1, ← e2] at ho6
      obtain ⟨hL6, hT6'⟩ := hAd.toLnsAt.grow hMd ho6 hbl6 hT6
      have hg6 : Blk w6 gB 65 #[vL] := hAd.blk.turns hT6 fun e => bd_ne hAd.row hAd.blk (by decide) e rfl
      have hB6 : Blk w6 g7 69 #[vf, .int .i64 a.1, vr] := Lg.blk.turns hT6 fun e => by have := hAd.hue g7 e; omega
      refine ⟨_, ⟨hg6.cell 0, by rw [← e1, ← e2]; exact hB6⟩, fun _ h => h, ?_⟩
      (repeat with_reducible first | refine yfd b0 (by decide) ?_|refine z_J ?_|refine z_a ?_|refine z_b ?_|refine z_c ?_|refine z_d ?_|refine z_e ?_|refine z_f ?_|refine z_g ?_|refine z_h ?_|refine z_i ?_|refine z_j ?_|refine z_k ?_|refine z_l ?_|refine z_K (by omega) ?_|refine z_L (by omega) ?_|refine z_M (by omega) ?_|refine z_N (by omega) ?_|refine z_O (by omega) ?_|refine z_P (by omega) ?_|refine z_Q (by omega) ?_|refine z_R (by omega) ?_|refine z_S (by omega) ?_|refine z_T (by omega) ?_|refine z_U (by omega) ?_|refine z_V (by omega) ?_|refine z_W (by omega) ?_|refine z_X (by omega) ?_|refine z_Y ?_|refine z_Z ?_|refine z_a1 ?_|refine z_b1 ?_|refine z_c1 ?_|refine z_d1 ?_|refine z_e1 ?_|refine z_f1 ?_|refine z_g1 ?_)
      refine st szLs (own1 ho6) (by rw [hg6.cell 0]; rfl) (hg6.frozen 0) ?_
      have hT7 := Turns.setCell (F := fun k => k = gB) (p := ⟨gB, 0, none⟩) (Turns.refl _ w6) (.inl rfl) v6
      have hcc6 := col_lt c9 we.heap.size hu
      have hgc : col c9 we.heap.size hu gB = hu := by rw [hcc6 gB hAd.blk.lt]; exact hAd.hug
      have hTall : Turns (fun k => c9 k = hu) w' (w6.setCell ⟨gB, 0, none⟩ v6) := hTd.trans ((hT6'.trans (hT7.mono fun k _ e => .inl (by show c9 k = hu; rw [e]; exact hAd.hug))).mono fun _ _ e => .inl e)
      have hhh := hL6.hh
      have hSF : BdS hu (col c9 we.heap.size hu) (w6.setCell ⟨gB, 0, none⟩ v6) gB (V ++ [⟨fs, a.1, pairsT t.1⟩]) :=
        ⟨v6, M ++ [⟨vf, vr, ⟨fs, a.1, pairsT t.1⟩⟩], ⟨⟨hL6.hh, ownsRow_turns hL6.row hT7 fun b hb e => bd_ne hL6.row hg6 (by decide) hb e.symm, hL6.hue, fun m hm => (hL6.el m hm).turns hT7 fun b hb => by rw [hb, hgc]; omega⟩, hgc, hg6.set_ 0 v6⟩, by rw [← hV]; unfold absB; rw [List.map_append]; rfl⟩
      (repeat with_reducible first|refine z_a ?_|refine z_b ?_|refine z_c ?_|refine z_d ?_|refine z_e ?_|refine z_f ?_|refine z_g ?_|refine z_h ?_|refine z_i ?_|refine z_j ?_|refine z_k ?_|refine z_l ?_|refine z_m (by omega) ?_|refine z_n (by omega) ?_|refine z_o (by omega) ?_|refine z_p (by omega) ?_|refine z_q (by omega) ?_|refine z_r (by omega) ?_|refine z_s (by omega) ?_|refine z_t (by omega) ?_|refine z_u (by omega) ?_|refine z_v (by omega) ?_|refine z_w (by omega) ?_|refine z_x (by omega) ?_|refine z_y (by omega) ?_|refine z_z (by omega) ?_|refine z_A ?_|refine z_B ?_|refine z_C ?_|refine z_D ?_|refine z_E ?_|refine z_F ?_|refine z_G ?_|refine z_H ?_|refine z_I ?_)
      refine hJ _ _ ⟨k - 1, V ++ [⟨fs, a.1, pairsT t.1⟩], (t.2.1, t.2.2 || decide (wrongL ⟨fs, a.1, pairsT t.1⟩ (decide (t.1.length % 2 = 1)))), col c9 we.heap.size hu, by rw [show ((k : Int) - 1) = ((k - 1 : Nat) : Int) by omega], fun _ => by omega, fun _ => by have := hVk hst; rw [List.length_append]; simp; omega, ?_, ?_, hSF, fun i hi => ?_, ?_⟩ (by simp only [intOf]; omega)
      · rw [hrel]
        obtain ⟨m, rfl⟩ : ∃ m, k = m + 1 := ⟨k - 1, by omega⟩
        rw [rLines, if_neg (by rw [hst]; simp), hline]
        simp
      · refine Lf.rdr.turns hTall (by show ¬ c9 g = hu; rw [hcg]; omega) (hvlt.imp id fun hh q hq e => ?_)
        have e' : c9 q = hu := e
        rw [hlow9 q (hh q hq)] at e'
        omega
      · have hwe : w2.heap.size ≤ we.heap.size := by
          have h1 := Lg.T.size
          omega
        rw [hcc6 i (by omega)]
        exact hlow9 i hi
      · refine (T5.trans (Lf.T.mono fun i _ e => .inl e)).trans (hTall.mono fun i _ e => .inr ?_)
        rcases Nat.lt_or_ge i w2.heap.size with hlt | hge'
        · have e' : c9 i = hu := e
          rw [hlow9 i hlt] at e'
          omega
        · exact hge'
    · have hdr : Below wd.heap.size wd wd.drew := (Below.refl _ _).drew
      have Le := Ld.below hdr
      have k1 : ∀ y, Below wd.heap.size wd y → y.cell? ⟨g7, 1, none⟩ = some (.int .i64 a.1) := fun y hb => (Ld.blk.below' hb).cell 1
      have k2 : ∀ y, Below wd.heap.size wd y → y.cell? ⟨g7, 2, none⟩ = some vr := fun y hb => (Ld.blk.below' hb).cell 2
      refine draw (Below wd.heap.size wd) hdr ?_
      generalize wd.drew = we at *
      first
        | (have hW : wrongL ⟨fs, a.1, pairsT t.1⟩ (decide (t.1.length % 2 = 1)) := (wrong_two _ _).2 (.inl hw1)
           (repeat with_reducible first | refine gaU ?_|refine z_J ?_|refine z_a ?_|refine z_b ?_|refine z_c ?_|refine z_d ?_|refine z_e ?_|refine z_f ?_|refine z_g ?_|refine z_h ?_|refine z_i ?_|refine z_j ?_|refine z_k ?_|refine z_l ?_|refine z_K (by omega) ?_|refine z_L (by omega) ?_|refine z_M (by omega) ?_|refine z_N (by omega) ?_|refine z_O (by omega) ?_|refine z_P (by omega) ?_|refine z_Q (by omega) ?_|refine z_R (by omega) ?_|refine z_S (by omega) ?_|refine z_T (by omega) ?_|refine z_U (by omega) ?_|refine z_V (by omega) ?_|refine z_W (by omega) ?_|refine z_X (by omega) ?_|refine z_Y ?_|refine z_Z ?_|refine z_a1 ?_|refine z_b1 ?_|refine z_c1 ?_|refine z_d1 ?_|refine z_e1 ?_|refine z_f1 ?_|refine z_g1 ?_)
           (repeat with_reducible first|refine z_a ?_|refine z_b ?_|refine z_c ?_|refine z_d ?_|refine z_e ?_|refine z_f ?_|refine z_g ?_|refine z_h ?_|refine z_i ?_|refine z_j ?_|refine z_k ?_|refine z_l ?_|refine z_m (by omega) ?_|refine z_n (by omega) ?_|refine z_o (by omega) ?_|refine z_p (by omega) ?_|refine z_q (by omega) ?_|refine z_r (by omega) ?_|refine z_s (by omega) ?_|refine z_t (by omega) ?_|refine z_u (by omega) ?_|refine z_v (by omega) ?_|refine z_w (by omega) ?_|refine z_x (by omega) ?_|refine z_y (by omega) ?_|refine z_z (by omega) ?_|refine z_A ?_|refine z_B ?_|refine z_C ?_|refine z_D ?_|refine z_E ?_|refine z_F ?_|refine z_G ?_|refine z_H ?_|refine z_I ?_)
           obtain ⟨p1, p2, p3, p4⟩ := Le.rdr.mark true
           (repeat with_reducible first | refine fd rd2 (by decide) ?_|refine z_a ?_|refine z_b ?_|refine z_c ?_|refine z_d ?_|refine z_e ?_|refine z_f ?_|refine z_g ?_|refine z_h ?_|refine z_i ?_|refine z_j ?_|refine z_k ?_|refine z_l ?_|refine z_m (by omega) ?_|refine z_n (by omega) ?_|refine z_o (by omega) ?_|refine z_p (by omega) ?_|refine z_q (by omega) ?_|refine z_r (by omega) ?_|refine z_s (by omega) ?_|refine z_t (by omega) ?_|refine z_u (by omega) ?_|refine z_v (by omega) ?_|refine z_w (by omega) ?_|refine z_x (by omega) ?_|refine z_y (by omega) ?_|refine z_z (by omega) ?_|refine z_A ?_|refine z_B ?_|refine z_C ?_|refine z_D ?_|refine z_E ?_|refine z_F ?_|refine z_G ?_|refine z_H ?_|refine z_I ?_)
           refine st szBo rfl p1 p2 ?_
           refine hJ3 _ _ ⟨rfl, ?_⟩
           rw [decide_eq_true hW, Bool.or_true]
           exact Le.reads hgs p3 p4)
        | (clear h3
           (repeat with_reducible first | refine yfd l1 (by decide) ?_| refine yl1 oneI k1 ?_|refine z_J ?_|refine z_a ?_|refine z_b ?_|refine z_c ?_|refine z_d ?_|refine z_e ?_|refine z_f ?_|refine z_g ?_|refine z_h ?_|refine z_i ?_|refine z_j ?_|refine z_k ?_|refine z_l ?_|refine z_K (by omega) ?_|refine z_L (by omega) ?_|refine z_M (by omega) ?_|refine z_N (by omega) ?_|refine z_O (by omega) ?_|refine z_P (by omega) ?_|refine z_Q (by omega) ?_|refine z_R (by omega) ?_|refine z_S (by omega) ?_|refine z_T (by omega) ?_|refine z_U (by omega) ?_|refine z_V (by omega) ?_|refine z_W (by omega) ?_|refine z_X (by omega) ?_|refine z_Y ?_|refine z_Z ?_|refine z_a1 ?_|refine z_b1 ?_|refine z_c1 ?_|refine z_d1 ?_|refine z_e1 ?_|refine z_f1 ?_|refine z_g1 ?_)
           refine yi_eql_c (fun e0 => ?_) (fun e0 => ?_)
           · have hW : wrongL ⟨fs, a.1, pairsT t.1⟩ (decide (t.1.length % 2 = 1)) := (wrong_two _ _).2 (.inr (.inl e0))
             (repeat with_reducible first | refine gaU ?_|refine z_J ?_|refine z_a ?_|refine z_b ?_|refine z_c ?_|refine z_d ?_|refine z_e ?_|refine z_f ?_|refine z_g ?_|refine z_h ?_|refine z_i ?_|refine z_j ?_|refine z_k ?_|refine z_l ?_|refine z_K (by omega) ?_|refine z_L (by omega) ?_|refine z_M (by omega) ?_|refine z_N (by omega) ?_|refine z_O (by omega) ?_|refine z_P (by omega) ?_|refine z_Q (by omega) ?_|refine z_R (by omega) ?_|refine z_S (by omega) ?_|refine z_T (by omega) ?_|refine z_U (by omega) ?_|refine z_V (by omega) ?_|refine z_W (by omega) ?_|refine z_X (by omega) ?_|refine z_Y ?_|refine z_Z ?_|refine z_a1 ?_|refine z_b1 ?_|refine z_c1 ?_|refine z_d1 ?_|refine z_e1 ?_|refine z_f1 ?_|refine z_g1 ?_)
             (repeat with_reducible first|refine z_a ?_|refine z_b ?_|refine z_c ?_|refine z_d ?_|refine z_e ?_|refine z_f ?_|refine z_g ?_|refine z_h ?_|refine z_i ?_|refine z_j ?_|refine z_k ?_|refine z_l ?_|refine z_m (by omega) ?_|refine z_n (by omega) ?_|refine z_o (by omega) ?_|refine z_p (by omega) ?_|refine z_q (by omega) ?_|refine z_r (by omega) ?_|refine z_s (by omega) ?_|refine z_t (by omega) ?_|refine z_u (by omega) ?_|refine z_v (by omega) ?_|refine z_w (by omega) ?_|refine z_x (by omega) ?_|refine z_y (by omega) ?_|refine z_z (by omega) ?_|refine z_A ?_|refine z_B ?_|refine z_C ?_|refine z_D ?_|refine z_E ?_|refine z_F ?_|refine z_G ?_|refine z_H ?_|refine z_I ?_)
             obtain ⟨p1, p2, p3, p4⟩ := Le.rdr.mark true
             (repeat with_reducible first | refine fd rd2 (by decide) ?_|refine z_a ?_|refine z_b ?_|refine z_c ?_|refine z_d ?_|refine z_e ?_|refine z_f ?_|refine z_g ?_|refine z_h ?_|refine z_i ?_|refine z_j ?_|refine z_k ?_|refine z_l ?_|refine z_m (by omega) ?_|refine z_n (by omega) ?_|refine z_o (by omega) ?_|refine z_p (by omega) ?_|refine z_q (by omega) ?_|refine z_r (by omega) ?_|refine z_s (by omega) ?_|refine z_t (by omega) ?_|refine z_u (by omega) ?_|refine z_v (by omega) ?_|refine z_w (by omega) ?_|refine z_x (by omega) ?_|refine z_y (by omega) ?_|refine z_z (by omega) ?_|refine z_A ?_|refine z_B ?_|refine z_C ?_|refine z_D ?_|refine z_E ?_|refine z_F ?_|refine z_G ?_|refine z_H ?_|refine z_I ?_)
             refine st szBo rfl p1 p2 ?_
             refine hJ3 _ _ ⟨rfl, ?_⟩
             rw [decide_eq_true hW, Bool.or_true]
             exact Le.reads hgs p3 p4
           obtain ⟨Ar, cr, er⟩ := Ld.ro.slice
           rw [er] at k2
           (repeat with_reducible first | refine yfd l1 (by decide) ?_| refine yl1 oneI k1 ?_|refine z_J ?_|refine z_a ?_|refine z_b ?_|refine z_c ?_|refine z_d ?_|refine z_e ?_|refine z_f ?_|refine z_g ?_|refine z_h ?_|refine z_i ?_|refine z_j ?_|refine z_k ?_|refine z_l ?_|refine z_K (by omega) ?_|refine z_L (by omega) ?_|refine z_M (by omega) ?_|refine z_N (by omega) ?_|refine z_O (by omega) ?_|refine z_P (by omega) ?_|refine z_Q (by omega) ?_|refine z_R (by omega) ?_|refine z_S (by omega) ?_|refine z_T (by omega) ?_|refine z_U (by omega) ?_|refine z_V (by omega) ?_|refine z_W (by omega) ?_|refine z_X (by omega) ?_|refine z_Y ?_|refine z_Z ?_|refine z_a1 ?_|refine z_b1 ?_|refine z_c1 ?_|refine z_d1 ?_|refine z_e1 ?_|refine z_f1 ?_|refine z_g1 ?_)
           refine yi_eql ?_
           (repeat with_reducible first | refine yfd l2 (by decide) ?_| refine yl1 oneRgs k2 ?_| refine yln und26 ?_|refine z_J ?_|refine z_a ?_|refine z_b ?_|refine z_c ?_|refine z_d ?_|refine z_e ?_|refine z_f ?_|refine z_g ?_|refine z_h ?_|refine z_i ?_|refine z_j ?_|refine z_k ?_|refine z_l ?_|refine z_K (by omega) ?_|refine z_L (by omega) ?_|refine z_M (by omega) ?_|refine z_N (by omega) ?_|refine z_O (by omega) ?_|refine z_P (by omega) ?_|refine z_Q (by omega) ?_|refine z_R (by omega) ?_|refine z_S (by omega) ?_|refine z_T (by omega) ?_|refine z_U (by omega) ?_|refine z_V (by omega) ?_|refine z_W (by omega) ?_|refine z_X (by omega) ?_|refine z_Y ?_|refine z_Z ?_|refine z_a1 ?_|refine z_b1 ?_|refine z_c1 ?_|refine z_d1 ?_|refine z_e1 ?_|refine z_f1 ?_|refine z_g1 ?_)
           refine yi_gtr ?_
           (repeat with_reducible first|refine z_J ?_|refine z_a ?_|refine z_b ?_|refine z_c ?_|refine z_d ?_|refine z_e ?_|refine z_f ?_|refine z_g ?_|refine z_h ?_|refine z_i ?_|refine z_j ?_|refine z_k ?_|refine z_l ?_|refine z_K (by omega) ?_|refine z_L (by omega) ?_|refine z_M (by omega) ?_|refine z_N (by omega) ?_|refine z_O (by omega) ?_|refine z_P (by omega) ?_|refine z_Q (by omega) ?_|refine z_R (by omega) ?_|refine z_S (by omega) ?_|refine z_T (by omega) ?_|refine z_U (by omega) ?_|refine z_V (by omega) ?_|refine z_W (by omega) ?_|refine z_X (by omega) ?_|refine z_Y ?_|refine z_Z ?_|refine z_a1 ?_|refine z_b1 ?_|refine z_c1 ?_|refine z_d1 ?_|refine z_e1 ?_|refine z_f1 ?_|refine z_g1 ?_)
           refine yi_bneq undBo ?_
           have hrn : (0 : Int) < ((pairsT t.1).length : Int) ↔ pairsT t.1 ≠ [] := by
             rw [← List.length_pos_iff]; omega
           rcases Classical.em (((a.1 : Nat) : Int) = 1 ↔ (0 : Int) < ((pairsT t.1).length : Int)) with hm | hm
           rotate_left
           · have hdd : decide (((a.1 : Nat) : Int) = 1) ≠ decide ((0 : Int) < ((pairsT t.1).length : Int)) := fun e => hm (decide_eq_decide.1 e)
             rw [decide_eq_true hdd]
             have hW : wrongL ⟨fs, a.1, pairsT t.1⟩ (decide (t.1.length % 2 = 1)) := (wrong_two _ _).2 (.inr (.inr (.inl fun e => hm (e.trans hrn.symm))))
             (repeat with_reducible first | refine gaU ?_|refine z_J ?_|refine z_a ?_|refine z_b ?_|refine z_c ?_|refine z_d ?_|refine z_e ?_|refine z_f ?_|refine z_g ?_|refine z_h ?_|refine z_i ?_|refine z_j ?_|refine z_k ?_|refine z_l ?_|refine z_K (by omega) ?_|refine z_L (by omega) ?_|refine z_M (by omega) ?_|refine z_N (by omega) ?_|refine z_O (by omega) ?_|refine z_P (by omega) ?_|refine z_Q (by omega) ?_|refine z_R (by omega) ?_|refine z_S (by omega) ?_|refine z_T (by omega) ?_|refine z_U (by omega) ?_|refine z_V (by omega) ?_|refine z_W (by omega) ?_|refine z_X (by omega) ?_|refine z_Y ?_|refine z_Z ?_|refine z_a1 ?_|refine z_b1 ?_|refine z_c1 ?_|refine z_d1 ?_|refine z_e1 ?_|refine z_f1 ?_|refine z_g1 ?_)
             (repeat with_reducible first|refine z_a ?_|refine z_b ?_|refine z_c ?_|refine z_d ?_|refine z_e ?_|refine z_f ?_|refine z_g ?_|refine z_h ?_|refine z_i ?_|refine z_j ?_|refine z_k ?_|refine z_l ?_|refine z_m (by omega) ?_|refine z_n (by omega) ?_|refine z_o (by omega) ?_|refine z_p (by omega) ?_|refine z_q (by omega) ?_|refine z_r (by omega) ?_|refine z_s (by omega) ?_|refine z_t (by omega) ?_|refine z_u (by omega) ?_|refine z_v (by omega) ?_|refine z_w (by omega) ?_|refine z_x (by omega) ?_|refine z_y (by omega) ?_|refine z_z (by omega) ?_|refine z_A ?_|refine z_B ?_|refine z_C ?_|refine z_D ?_|refine z_E ?_|refine z_F ?_|refine z_G ?_|refine z_H ?_|refine z_I ?_)
             obtain ⟨p1, p2, p3, p4⟩ := Le.rdr.mark true
             (repeat with_reducible first | refine fd rd2 (by decide) ?_|refine z_a ?_|refine z_b ?_|refine z_c ?_|refine z_d ?_|refine z_e ?_|refine z_f ?_|refine z_g ?_|refine z_h ?_|refine z_i ?_|refine z_j ?_|refine z_k ?_|refine z_l ?_|refine z_m (by omega) ?_|refine z_n (by omega) ?_|refine z_o (by omega) ?_|refine z_p (by omega) ?_|refine z_q (by omega) ?_|refine z_r (by omega) ?_|refine z_s (by omega) ?_|refine z_t (by omega) ?_|refine z_u (by omega) ?_|refine z_v (by omega) ?_|refine z_w (by omega) ?_|refine z_x (by omega) ?_|refine z_y (by omega) ?_|refine z_z (by omega) ?_|refine z_A ?_|refine z_B ?_|refine z_C ?_|refine z_D ?_|refine z_E ?_|refine z_F ?_|refine z_G ?_|refine z_H ?_|refine z_I ?_)
             refine st szBo rfl p1 p2 ?_
             refine hJ3 _ _ ⟨rfl, ?_⟩
             rw [decide_eq_true hW, Bool.or_true]
             exact Le.reads hgs p3 p4
           have hdd : ¬ decide (((a.1 : Nat) : Int) = 1) ≠ decide ((0 : Int) < ((pairsT t.1).length : Int)) := fun h => h (decide_eq_decide.2 hm)
           rw [decide_eq_false hdd]
           (repeat with_reducible first | refine yfd l2 (by decide) ?_| refine yl1 oneRgs k2 ?_|refine z_J ?_|refine z_a ?_|refine z_b ?_|refine z_c ?_|refine z_d ?_|refine z_e ?_|refine z_f ?_|refine z_g ?_|refine z_h ?_|refine z_i ?_|refine z_j ?_|refine z_k ?_|refine z_l ?_|refine z_K (by omega) ?_|refine z_L (by omega) ?_|refine z_M (by omega) ?_|refine z_N (by omega) ?_|refine z_O (by omega) ?_|refine z_P (by omega) ?_|refine z_Q (by omega) ?_|refine z_R (by omega) ?_|refine z_S (by omega) ?_|refine z_T (by omega) ?_|refine z_U (by omega) ?_|refine z_V (by omega) ?_|refine z_W (by omega) ?_|refine z_X (by omega) ?_|refine z_Y ?_|refine z_Z ?_|refine z_a1 ?_|refine z_b1 ?_|refine z_c1 ?_|refine z_d1 ?_|refine z_e1 ?_|refine z_f1 ?_|refine z_g1 ?_)
           refine act ?_
           have hro := Le.ro.rd
           rw [er] at hro
           have hpl : 2 * (pairsT t.1).length ≤ t.1.length := by
             rw [← hrs]
             have := ends_len (pairsT (t.1.take (2 * j)))
             rw [ends_pairs _ (by rw [List.length_take]; omega), List.length_take] at this
             omega
           refine (least18 _ (pairsT t.1) (by omega) we hro).mono ?_
           rintro vl wf ⟨out, hout, _, hol, hf⟩
           have := hout.eq
           subst this
           have hf' := below_then hdr hf
           have Lff := Ld.below hf'
           refine ⟨_, hf', fun _ h => h, ?_⟩
           (repeat with_reducible first|refine z_J ?_|refine z_a ?_|refine z_b ?_|refine z_c ?_|refine z_d ?_|refine z_e ?_|refine z_f ?_|refine z_g ?_|refine z_h ?_|refine z_i ?_|refine z_j ?_|refine z_k ?_|refine z_l ?_|refine z_K (by omega) ?_|refine z_L (by omega) ?_|refine z_M (by omega) ?_|refine z_N (by omega) ?_|refine z_O (by omega) ?_|refine z_P (by omega) ?_|refine z_Q (by omega) ?_|refine z_R (by omega) ?_|refine z_S (by omega) ?_|refine z_T (by omega) ?_|refine z_U (by omega) ?_|refine z_V (by omega) ?_|refine z_W (by omega) ?_|refine z_X (by omega) ?_|refine z_Y ?_|refine z_Z ?_|refine z_a1 ?_|refine z_b1 ?_|refine z_c1 ?_|refine z_d1 ?_|refine z_e1 ?_|refine z_f1 ?_|refine z_g1 ?_)
           refine act ?_
           have hro2 := Lff.ro.rd
           rw [er] at hro2
           refine (Equal46 vl _ _ _ wf hol.rd hro2).mono ?_
           rintro _ wg ⟨rfl, hg'⟩
           have hg2' := below_then hf' hg'
           have Lh := Ld.below hg2'
           refine ⟨_, hg2', fun _ h => h, ?_⟩
           rcases Classical.em (lst (pairsT t.1) = pairsT t.1) with hq | hq
           · rw [decide_eq_true hq]
             have hW : ¬ wrongL ⟨fs, a.1, pairsT t.1⟩ (decide (t.1.length % 2 = 1)) := fun e => ((wrong_two _ _).1 e).elim hw1 fun e => e.elim e0 fun e => e.elim (fun e => e (hm.trans hrn)) fun e => e hq
             (repeat with_reducible first|refine z_J ?_|refine z_a ?_|refine z_b ?_|refine z_c ?_|refine z_d ?_|refine z_e ?_|refine z_f ?_|refine z_g ?_|refine z_h ?_|refine z_i ?_|refine z_j ?_|refine z_k ?_|refine z_l ?_|refine z_K (by omega) ?_|refine z_L (by omega) ?_|refine z_M (by omega) ?_|refine z_N (by omega) ?_|refine z_O (by omega) ?_|refine z_P (by omega) ?_|refine z_Q (by omega) ?_|refine z_R (by omega) ?_|refine z_S (by omega) ?_|refine z_T (by omega) ?_|refine z_U (by omega) ?_|refine z_V (by omega) ?_|refine z_W (by omega) ?_|refine z_X (by omega) ?_|refine z_Y ?_|refine z_Z ?_|refine z_a1 ?_|refine z_b1 ?_|refine z_c1 ?_|refine z_d1 ?_|refine z_e1 ?_|refine z_f1 ?_|refine z_g1 ?_)
             (repeat with_reducible first|refine z_a ?_|refine z_b ?_|refine z_c ?_|refine z_d ?_|refine z_e ?_|refine z_f ?_|refine z_g ?_|refine z_h ?_|refine z_i ?_|refine z_j ?_|refine z_k ?_|refine z_l ?_|refine z_m (by omega) ?_|refine z_n (by omega) ?_|refine z_o (by omega) ?_|refine z_p (by omega) ?_|refine z_q (by omega) ?_|refine z_r (by omega) ?_|refine z_s (by omega) ?_|refine z_t (by omega) ?_|refine z_u (by omega) ?_|refine z_v (by omega) ?_|refine z_w (by omega) ?_|refine z_x (by omega) ?_|refine z_y (by omega) ?_|refine z_z (by omega) ?_|refine z_A ?_|refine z_B ?_|refine z_C ?_|refine z_D ?_|refine z_E ?_|refine z_F ?_|refine z_G ?_|refine z_H ?_|refine z_I ?_)
             refine hJ3 _ _ ⟨rfl, ?_⟩
             rw [decide_eq_false hW, Bool.or_false]
             exact Lh
           · rw [decide_eq_false hq]
             have hW : wrongL ⟨fs, a.1, pairsT t.1⟩ (decide (t.1.length % 2 = 1)) := (wrong_two _ _).2 (.inr (.inr (.inr hq)))
             (repeat with_reducible first|refine z_J ?_|refine z_a ?_|refine z_b ?_|refine z_c ?_|refine z_d ?_|refine z_e ?_|refine z_f ?_|refine z_g ?_|refine z_h ?_|refine z_i ?_|refine z_j ?_|refine z_k ?_|refine z_l ?_|refine z_K (by omega) ?_|refine z_L (by omega) ?_|refine z_M (by omega) ?_|refine z_N (by omega) ?_|refine z_O (by omega) ?_|refine z_P (by omega) ?_|refine z_Q (by omega) ?_|refine z_R (by omega) ?_|refine z_S (by omega) ?_|refine z_T (by omega) ?_|refine z_U (by omega) ?_|refine z_V (by omega) ?_|refine z_W (by omega) ?_|refine z_X (by omega) ?_|refine z_Y ?_|refine z_Z ?_|refine z_a1 ?_|refine z_b1 ?_|refine z_c1 ?_|refine z_d1 ?_|refine z_e1 ?_|refine z_f1 ?_|refine z_g1 ?_)
             (repeat with_reducible first|refine z_a ?_|refine z_b ?_|refine z_c ?_|refine z_d ?_|refine z_e ?_|refine z_f ?_|refine z_g ?_|refine z_h ?_|refine z_i ?_|refine z_j ?_|refine z_k ?_|refine z_l ?_|refine z_m (by omega) ?_|refine z_n (by omega) ?_|refine z_o (by omega) ?_|refine z_p (by omega) ?_|refine z_q (by omega) ?_|refine z_r (by omega) ?_|refine z_s (by omega) ?_|refine z_t (by omega) ?_|refine z_u (by omega) ?_|refine z_v (by omega) ?_|refine z_w (by omega) ?_|refine z_x (by omega) ?_|refine z_y (by omega) ?_|refine z_z (by omega) ?_|refine z_A ?_|refine z_B ?_|refine z_C ?_|refine z_D ?_|refine z_E ?_|refine z_F ?_|refine z_G ?_|refine z_H ?_|refine z_I ?_)
             obtain ⟨p1, p2, p3, p4⟩ := Lh.rdr.mark true
             (repeat with_reducible first | refine fd rd2 (by decide) ?_|refine z_a ?_|refine z_b ?_|refine z_c ?_|refine z_d ?_|refine z_e ?_|refine z_f ?_|refine z_g ?_|refine z_h ?_|refine z_i ?_|refine z_j ?_|refine z_k ?_|refine z_l ?_|refine z_m (by omega) ?_|refine z_n (by omega) ?_|refine z_o (by omega) ?_|refine z_p (by omega) ?_|refine z_q (by omega) ?_|refine z_r (by omega) ?_|refine z_s (by omega) ?_|refine z_t (by omega) ?_|refine z_u (by omega) ?_|refine z_v (by omega) ?_|refine z_w (by omega) ?_|refine z_x (by omega) ?_|refine z_y (by omega) ?_|refine z_z (by omega) ?_|refine z_A ?_|refine z_B ?_|refine z_C ?_|refine z_D ?_|refine z_E ?_|refine z_F ?_|refine z_G ?_|refine z_H ?_|refine z_I ?_)
             refine st szBo rfl p1 p2 ?_
             refine hJ3 _ _ ⟨rfl, ?_⟩
             rw [decide_eq_true hW, Bool.or_true]
             exact Lh.reads hgs p3 p4)
end Go.Proofs.Ytcfncjejpjjhdaa.E
namespace Go.Proofs.Ytcfncjejpjjhdaa.E
open Go Go.RowKit
set_option linter.unusedSimpArgs false
set_option linter.unusedVariables false

theorem num_two (n : Nat) (h : n < 16384) : (Pack.num n).length ≤ 2 := by
  by_cases h1 : n ≤ 127
  · rw [Pack.num_small _ h1]; simp
  · rw [Pack.num_big _ h1, List.length_cons]
    rw [Pack.num_small _ (by omega)]; simp
theorem flat_le {α : Type} (f : α → List UInt8) (b : Nat) : ∀ l : List α, (∀ x ∈ l, (f x).length ≤ b) → ((l.map f).flatten).length ≤ l.length * b
  | [], _ => by simp
  | x :: l, h => by
    have h1 := h x (by simp)
    have h2 := flat_le f b l fun y hy => h y (by simp [hy])
    rw [List.map_cons, List.flatten_cons, List.length_append, List.length_cons, Nat.add_mul]
    omega
theorem ends_short {rs : List Rg} (h : ∀ q ∈ rs, shortR q) : ∀ t ∈ endsT rs, t.length ≤ 200 := fun t ht => by
  obtain ⟨q, hq, ht⟩ := List.mem_flatMap.1 ht
  have := h q hq
  unfold shortR at this
  simp only [List.mem_cons, List.not_mem_nil, or_false] at ht
  rcases ht with rfl | rfl
  · exact this.1
  · exact this.2
theorem saveL_len {x : Ln} (h : LnOk 62 x) (hs : ∀ q ∈ x.rs, shortR q) : (saveL x).length ≤ 30000 := by
  have hst : 0 ≤ x.st ∧ x.st ≤ 3 := by have := h.st; omega
  have hfl : x.fs.length ≤ 2 ∧ ∀ m ∈ x.fs, 0 ≤ m ∧ m < 4 := by
    by_cases h3 : x.st = 3
    · rw [h.gone h3]; simp
    · have := ckI_len (h.fs h3)
      exact ⟨this.2.1, this.2.2.1⟩
  have h1 := num_two x.st.toNat (by omega)
  have h2 := num_two x.fs.length (by omega)
  have h3 := flat_le (fun n : Int => Pack.num n.toNat) 2 x.fs fun n hn => num_two _ (by have := hfl.2 n hn; omega)
  have hel := ends_len x.rs
  have hrl := h.len
  have h4 := num_two ((endsT x.rs).map strB).length (by rw [List.length_map]; omega)
  have h5 := flat_le Pack.text 202 ((endsT x.rs).map strB) fun s hs' => by
    obtain ⟨t, ht, rfl⟩ := List.mem_map.1 hs'
    have := ends_short hs t ht
    rw [Pack.text, List.length_append, strB_list]
    have := num_two t.length (by omega)
    omega
  rw [List.length_map] at h5
  have h6 : (Pack.texts ((endsT x.rs).map strB)).length ≤ 2 + (endsT x.rs).length * 202 := by
    rw [Pack.texts, List.length_append]
    omega
  unfold saveL
  simp only [List.length_append]
  have : (endsT x.rs).length * 202 ≤ 124 * 202 := Nat.mul_le_mul_right _ (by omega)
  have : x.fs.length * 2 ≤ 4 := by omega
  omega
theorem LnOk.mono {n m : Nat} {x : Ln} (h : LnOk n x) (hm : n ≤ m) : LnOk m x := ⟨h.1, h.2, h.3, h.4, h.5, h.6, Nat.le_trans h.7 hm⟩
/-- A board after n calls with short ends. -/
structure StepS (n : Nat) (V M : BdV) : Prop extends StepB n V M where
  sh : ∀ x ∈ V, ∀ q ∈ x.rs, shortR q
theorem StepS.save {n : Nat} {V M : BdV} (h : StepS n V M) (hn : n ≤ 62) : (saveB V).length ≤ 200000 := by
  have h6 := h.ok.1
  have h1 := num_two V.length (by omega)
  have h2 := flat_le saveL 30000 V fun x hx => saveL_len ((h.ok.2 x hx).mono hn) (h.sh x hx)
  unfold saveB
  rw [List.length_append]
  have : V.length * 30000 ≤ 6 * 30000 := Nat.mul_le_mul_right _ h6
  omega
theorem StepS.mono {n m : Nat} {V M : BdV} (h : StepS n V M) (hm : n ≤ m) : StepS m V M := ⟨h.toStepB.mono hm, h.sh⟩
theorem allR_short : shortR allR := by unfold shortR allR; simp
theorem StepS.nil : StepS 1 [] [] := ⟨StepB.nil, by simp⟩
theorem StepS.de {n : Nat} {V M : BdV} (h : StepS n V M) (hn : 1 ≤ n) (fs : List Int) : StepS n (deV V fs [allR]) (deV M fs []) := by
  refine ⟨h.toStepB.de hn fs, fun x hx => ?_⟩
  unfold deV at hx
  split at hx
  · exact h.sh x hx
  · split at hx
    · rcases List.mem_append.1 hx with hx | hx
      · exact h.sh x hx
      · simp only [List.mem_cons, List.not_mem_nil, or_false] at hx
        rw [hx]
        intro q hq
        simp only [List.mem_cons, List.not_mem_nil, or_false] at hq
        rw [hq]; exact allR_short
    · exact h.sh x hx
theorem StepS.dr {n : Nat} {V M : BdV} (h : StepS n V M) (id : Int) : StepS n (drV V id gone0) (drV M id goneR) := by
  refine ⟨h.toStepB.dr id, fun x hx => ?_⟩
  unfold drV at hx
  split at hx
  · rcases upd_mem hx with hx | ⟨y, hy, rfl⟩
    · exact h.sh x hx
    · intro q hq; cases hq
  · exact h.sh x hx
theorem StepS.re {n : Nat} {V M : BdV} (h : StepS n V M) (id : Int) (r : Rg) (hr : shortR r) : StepS (n + 1) (reV V id (rep0 r)) (reV M id (repR r)) := by
  refine ⟨h.toStepB.re id r, fun x hx => ?_⟩
  unfold reV at hx
  split at hx
  · rcases upd_mem hx with hx | ⟨y, hy, rfl⟩
    · exact h.sh x hx
    · exact mns_short (h.ok.2 y hy).canon (h.sh y hy) hr
  · exact h.sh x hx
theorem MemL.sub {w0 w : World} {L L' : List Ob} (h : MemL w0 w L) (hs : ∀ o ∈ L', o ∈ L) : MemL w0 w L' := by
  obtain ⟨c, h1, h2, h3⟩ := h
  exact ⟨c, h1, fun o ho => h2 o (hs o ho), h3⟩
section
variable {w0 w : World} {A B L : List Ob} {hu g n : Nat} {V M : BdV}
theorem callSave (h : MemL w0 w (A ++ obD hu g V :: B)) (hs : StepS n V M) (hn : n ≤ 62) :
    CallP Try.prog 25 #[.pointer (some ⟨g, 0, none⟩)] (fun u w' => u = tS (saveB V) ∧ MemL w0 w' (A ++ obD hu g V :: B)) w := by
  obtain ⟨c, h1⟩ := h.look
  have hl := hs.save hn
  exact (Save25 h1 hs.ok (by omega) (by omega) fun x hx t ht => Nat.le_trans (ends_short (hs.sh x hx) t ht) (by omega)).mono fun u w' ⟨hu, hb⟩ => ⟨hu, h.below hb⟩
end
end Go.Proofs.Ytcfncjejpjjhdaa.E
namespace Go.Proofs.Ytcfncjejpjjhdaa.E
open Go Go.RowKit
set_option linter.unusedSimpArgs false
set_option linter.unusedVariables false

theorem stV_nat {V : BdV} {i : Nat} (hi : i < V.length) : stV V ((i : Int) + 1) = V[i].st := by
  unfold stV
  rw [if_pos (by omega)]
  have : ((i : Int) + 1 - 1).toNat = i := by omega
  rw [this, List.getElem?_eq_getElem hi]
  rfl
theorem told_eq {n : Nat} {V U : BdV} (hV : BdOk n V) (hU : BdOk n U) (h : ∀ id : Int, -1 ≤ id → id < 9 → stV V id = stV U id ∧ lfV V id = lfV U id ∧ ixV V id = ixV U id) : V = U := by
  have pos : ∀ {W : BdV} (hW : BdOk n W) (i : Nat) (hi : i < W.length), stV W ((i : Int) + 1) ≠ 0 := fun {W} hW i hi => by
    rw [stV_nat hi]
    have := (hW.2 _ (List.getElem_mem hi)).st
    omega
  have hV6 := hV.1
  have hU6 := hU.1
  have hl : V.length = U.length := by
    rcases Nat.lt_trichotomy V.length U.length with hlt | he | hlt
    · have h1 := (h ((V.length : Int) + 1) (by omega) (by omega)).1
      have h2 := pos hU V.length hlt
      rw [stV_no (V := V) (by omega)] at h1
      exact absurd h1.symm h2
    · exact he
    · have h1 := (h ((U.length : Int) + 1) (by omega) (by omega)).1
      have h2 := pos hV U.length hlt
      rw [stV_no (V := U) (by omega)] at h1
      exact absurd h1 h2
  refine List.ext_getElem hl fun i h1 h2 => ?_
  obtain ⟨a1, a2, a3⟩ := h ((i : Int) + 1) (by omega) (by omega)
  have ei : ((i : Int) + 1 - 1).toNat = i := by omega
  unfold lfV at a2
  unfold ixV at a3
  rw [stV_nat h1, stV_nat h2, ei, List.getElem?_eq_getElem h1, List.getElem?_eq_getElem h2] at a2 a3
  rw [stV_nat h1, stV_nat h2] at a1
  have o1 := hV.2 _ (List.getElem_mem h1)
  have o2 := hU.2 _ (List.getElem_mem h2)
  simp only [Option.map_some, Option.getD_some] at a2 a3
  rw [← a1] at a2 a3
  generalize V[i] = x at *
  generalize U[i] = y at *
  obtain ⟨f1, s1, r1⟩ := x
  obtain ⟨f2, s2, r2⟩ := y
  simp only at a1 a2 a3
  subst a1
  have hr : r1 = r2 := by
    by_cases h1 : s1 = 1
    · rw [if_pos h1, if_pos h1] at a2; exact a2
    · exact (o1.no h1).trans (o2.no h1).symm
  have hf : f1 = f2 := by
    by_cases h3 : s1 = 3
    · exact (o1.gone h3).trans (o2.gone h3).symm
    · have : s1 = 1 ∨ s1 = 2 := by have := o1.st; simp only at this; omega
      rw [if_pos this, if_pos this] at a3
      cases a3; rfl
  rw [hr, hf]
theorem cross {n : Nat} {V1 V2 R1 R2 : BdV} (h1 : StepS n V1 R1) (h2 : StepS n V2 R2) (hn : n ≤ 62) : saveB V1 = saveB V2 ↔ (sameP V1 R2 (veV R2) ∧ sameP V2 R1 (veV R1)) := by
  have l1 := load_save h1.ok (by omega) h1.sh (by have := h1.save hn; omega)
  have l2 := load_save h2.ok (by omega) h2.sh (by have := h2.save hn; omega)
  constructor
  · intro e
    rw [e, l2] at l1
    cases l1
    exact ⟨same_rel h2.rel h2.ok, same_rel h1.rel h1.ok⟩
  · rintro ⟨hs, -⟩
    have : V1 = V2 := told_eq h1.ok h2.ok fun id a b => by
      obtain ⟨q1, q2, q3⟩ := hs.2.2.2 id a b
      exact ⟨q1.trans (st_rel h2.rel id), q2.trans (lf_rel h2.rel h2.ok id), q3.trans (ix_rel h2.rel id)⟩
    rw [this]
theorem mem_flat_len {α : Type} (f : α → List UInt8) {l : List α} {x : α} (h : x ∈ l) : (f x).length ≤ ((l.map f).flatten).length := by
  induction l with
  | nil => cases h
  | cons a l ih =>
    rw [List.map_cons, List.flatten_cons, List.length_append]
    rcases List.mem_cons.1 h with rfl | h
    · omega
    · have := ih h; omega
theorem ends_save {V : BdV} {x : Ln} (hx : x ∈ V) {t : Txt} (ht : t ∈ endsT x.rs) : t.length ≤ (saveB V).length := by
  have h1 := mem_flat_len saveL hx
  have h2 := mem_flat_len Pack.text (List.mem_map.2 ⟨t, ht, rfl⟩ : strB t ∈ (endsT x.rs).map strB)
  have h3 : (Pack.texts ((endsT x.rs).map strB)).length ≤ (saveL x).length := by
    unfold saveL
    simp only [List.length_append]
    omega
  rw [Pack.texts, List.length_append] at h3
  rw [Pack.text, List.length_append, strB_list] at h2
  unfold saveB
  rw [List.length_append]
  omega
theorem undA1 : Try.prog.underlying 59 = some (.array 2 26) := by kernel_rfl
theorem undA2 : Try.prog.underlying 60 = some (.array 2 39) := by kernel_rfl
theorem zA1 : (Try.prog.info? 59).bind (·.zero) = some (.agg #[.pointer none, .pointer none]) := by kernel_rfl
theorem zA2 : (Try.prog.info? 60).bind (·.zero) = some (.agg #[.pointer none, .pointer none]) := by kernel_rfl
theorem szPb : (Try.prog.info? 26).map (·.size) = some 1 := by kernel_rfl
theorem szPr : (Try.prog.info? 39).map (·.size) = some 1 := by kernel_rfl
theorem onePb : oneB Try.prog 26 = true := by kernel_rfl
theorem onePr : oneB Try.prog 39 = true := by kernel_rfl
abbrev pt (g : Nat) : Value := .pointer (some ⟨g, 0, none⟩)
theorem MemL.arr {w0 w : World} {L : List Ob} {hu g : Nat} {t : TypeId} {cs : Array Value} (h : MemL w0 w L) (hm : obA hu g t cs ∈ L) : Blk w g t cs := by
  obtain ⟨c, _, h2, _⟩ := h
  obtain ⟨_, _, cs', e, hb⟩ := h2 _ hm
  cases e
  exact hb
theorem MemL.arrPut {w0 w : World} {A B : List Ob} {hu g : Nat} {t : TypeId} {cs : Array Value} (h : MemL w0 w (A ++ obA hu g t cs :: B)) (hd : ∀ x ∈ A ++ B, x.hu ≠ hu) (i : Nat) (v : Value) : MemL w0 (w.setCell ⟨g, i, none⟩ v) (A ++ obA hu g t (cs.setIfInBounds i v) :: B) := by
  have hb := h.arr (hu := hu) (g := g) (t := t) (cs := cs) (by simp)
  obtain ⟨c, hO, back⟩ := h.call hd
  obtain ⟨hh, hc, _⟩ := hO
  have hc : c g = hu := hc
  refine back (obA hu g t (cs.setIfInBounds i v)) _ rfl ⟨c, fun _ _ => rfl, ⟨hh, hc, _, rfl, hb.set_ i v⟩, Turns.setCell (F := fun k => c k = hu) (p := ⟨g, i, none⟩) (Turns.refl _ w) (.inl hc) v⟩
theorem MemL.arrNew {w0 w w' : World} {L : List Ob} {hu g : Nat} {t : TypeId} {cs : Array Value} (h : MemL w0 w L) (hh : 0 < hu ∧ hu < 999) (hg : g = w.heap.size) (hb : Blk w' g t cs) (hw : Below w.heap.size w w') : MemL w0 w' (L ++ [obA hu g t cs]) := by
  obtain ⟨c, mk⟩ := h.make
  exact mk (obA hu g t cs) w' ⟨col c w.heap.size hu, col_lt _ _ _, ⟨hh, col_ge _ _ _ (by show w.heap.size ≤ g; omega), cs, rfl, hb⟩, hw⟩
theorem hdD {T : List Ob} {h g : Nat} {R : BdV} (hR : ∀ x ∈ T, x.hu ≠ h ∧ x.hu ≠ h + 1) : ∀ x ∈ ([] : List Ob) ++ obE (h + 1) g R :: T, x.hu ≠ h := fun x hx => by
  rcases List.mem_cons.1 (by simpa using hx) with rfl | hx
  · show h + 1 ≠ h; omega
  · exact (hR x hx).1
theorem hdE {T : List Ob} {h g : Nat} {V : BdV} (hR : ∀ x ∈ T, x.hu ≠ h ∧ x.hu ≠ h + 1) : ∀ x ∈ [obD h g V] ++ T, x.hu ≠ h + 1 := fun x hx => by
  rcases List.mem_cons.1 (by simpa using hx) with rfl | hx
  · show h ≠ h + 1; omega
  · exact (hR x hx).2
/-- Acts as they came in, and light. -/
structure ActsOk (w : World) (v : Value) (l : List ActB) : Prop where
  rd : AcB w [v] l
  most : l.length ≤ 60
  lt : ∀ a ∈ l, a.fs.length ≤ 50 ∧ shortR a.r
  id : ∀ a ∈ l, a.id ≤ 9223372036854775807
/-- What the first loop bears: the two arrays, the boards of the rounds that are done. -/
def OutI (w0 w : World) (p q i : Nat) : Prop := ∃ (c d : Array Value) (O : List Ob), c.size = 2 ∧ d.size = 2 ∧ MemL w0 w (obA 7 p 59 c :: obA 8 q 60 d :: O) ∧ (∀ x ∈ O, x.hu ≤ 2 * i) ∧
  ∀ j, j < i → ∃ g g' V R, obD (2 * j + 1) g V ∈ O ∧ obE (2 * j + 2) g' R ∈ O ∧ c[j]? = some (pt g) ∧ d[j]? = some (pt g') ∧ StepS 61 V R
theorem callSaveM {w0 w : World} {L : List Ob} {hu g n : Nat} {V M : BdV} (h : MemL w0 w L) (hm : obD hu g V ∈ L) (hs : StepS n V M) (hn : n ≤ 62) :
    CallP Try.prog 25 #[.pointer (some ⟨g, 0, none⟩)] (fun u w' => u = tS (saveB V) ∧ MemL w0 w' L) w := by
  obtain ⟨A, B, rfl⟩ := List.append_of_mem hm
  exact callSave h hs hn
theorem callSameM {w0 w : World} {L : List Ob} {hu g hu' g' n : Nat} {V M V' M' : BdV} (h : MemL w0 w L) (h1 : obD hu g V ∈ L) (h2 : obE hu' g' M' ∈ L) (hs : StepB n V M) (hs' : StepB n V' M') (hn : n ≤ 62) :
    CallP Try.prog 23 #[.pointer (some ⟨g, 0, none⟩), .pointer (some ⟨g', 0, none⟩)] (fun r w' => ∃ b, r = .bool b ∧ (b = true ↔ sameP V M' (veV M')) ∧ MemL w0 w' L) w := by
  have hm := h
  obtain ⟨c, _, q2, _⟩ := h
  have hO1 : BdS hu c w g V := q2 _ h1
  have hO2 : RbS hu' c w g' (veV M') M' := q2 _ h2
  refine (same23 (k := n) hO1 hO2 hs.ok (by omega) hs'.st.1 hs'.st.2 (fun x hx => Nat.le_trans (hs'.len x hx) (by omega))).mono ?_
  rintro _ wf ⟨⟨b, rfl, hb'⟩, hf⟩
  exact ⟨b, rfl, hb', hm.below hf⟩
theorem cutW {G : Prop} {P Q : World → Prop} (h1 : (∀ w5, Q w5 → P w5) → G) (h2 : ∀ w5, Q w5 → P w5) : G := h1 h2
theorem boardLoads (v u : Value) (l m : List ActB) (bs : List UInt8) (w : World) (hv : AcB w [v] l) (hl64 : ∀ a ∈ l, a.id ≤ 9223372036854775807) (hu : AcB w [u] m) (hm64 : ∀ a ∈ m, a.id ≤ 9223372036854775807) :
    CallP Try.prog 6 #[v, u, tS bs] (fun r w' => r = .bool true ∧ Below w.heap.size w w') w := by
  refine ⟨S6.calls _ _ _ _ _ ?_⟩
  unfold S6
  refine (awake7 w).mono ?_
  rintro _ w1 ⟨rfl, hb1⟩
  (repeat with_reducible first|refine z_a ?_|refine z_b ?_|refine z_c ?_|refine z_d ?_|refine z_e ?_|refine z_f ?_|refine z_g ?_|refine z_h ?_|refine z_i ?_|refine z_j ?_|refine z_k ?_|refine z_l ?_|refine z_m (by omega) ?_|refine z_n (by omega) ?_|refine z_o (by omega) ?_|refine z_p (by omega) ?_|refine z_q (by omega) ?_|refine z_r (by omega) ?_|refine z_s (by omega) ?_|refine z_t (by omega) ?_|refine z_u (by omega) ?_|refine z_v (by omega) ?_|refine z_w (by omega) ?_|refine z_x (by omega) ?_|refine z_y (by omega) ?_|refine z_z (by omega) ?_|refine z_A ?_|refine z_B ?_|refine z_C ?_|refine z_D ?_|refine z_E ?_|refine z_F ?_|refine z_G ?_|refine z_H ?_|refine z_I ?_)
  refine (light14s _ l w1 (keeps_AcB _ _ _ _ hb1 hv)).mono ?_
  rintro _ w2 ⟨z, rfl, hz, h2⟩
  have hb2 := below_then hb1 h2
  cases z with
  | false =>
    (repeat with_reducible first|refine z_a ?_|refine z_b ?_|refine z_c ?_|refine z_d ?_|refine z_e ?_|refine z_f ?_|refine z_g ?_|refine z_h ?_|refine z_i ?_|refine z_j ?_|refine z_k ?_|refine z_l ?_|refine z_m (by omega) ?_|refine z_n (by omega) ?_|refine z_o (by omega) ?_|refine z_p (by omega) ?_|refine z_q (by omega) ?_|refine z_r (by omega) ?_|refine z_s (by omega) ?_|refine z_t (by omega) ?_|refine z_u (by omega) ?_|refine z_v (by omega) ?_|refine z_w (by omega) ?_|refine z_x (by omega) ?_|refine z_y (by omega) ?_|refine z_z (by omega) ?_|refine z_A ?_|refine z_B ?_|refine z_C ?_|refine z_D ?_|refine z_E ?_|refine z_F ?_|refine z_G ?_|refine z_H ?_|refine z_I ?_)
    exact ⟨rfl, hb2⟩
  | true =>
  obtain ⟨hl60, hlf⟩ := hz rfl
  (repeat with_reducible first|refine z_a ?_|refine z_b ?_|refine z_c ?_|refine z_d ?_|refine z_e ?_|refine z_f ?_|refine z_g ?_|refine z_h ?_|refine z_i ?_|refine z_j ?_|refine z_k ?_|refine z_l ?_|refine z_m (by omega) ?_|refine z_n (by omega) ?_|refine z_o (by omega) ?_|refine z_p (by omega) ?_|refine z_q (by omega) ?_|refine z_r (by omega) ?_|refine z_s (by omega) ?_|refine z_t (by omega) ?_|refine z_u (by omega) ?_|refine z_v (by omega) ?_|refine z_w (by omega) ?_|refine z_x (by omega) ?_|refine z_y (by omega) ?_|refine z_z (by omega) ?_|refine z_A ?_|refine z_B ?_|refine z_C ?_|refine z_D ?_|refine z_E ?_|refine z_F ?_|refine z_G ?_|refine z_H ?_|refine z_I ?_)
  refine (light14s _ m w2 (keeps_AcB _ _ _ _ hb2 hu)).mono ?_
  rintro _ w3 ⟨z, rfl, hz, h3⟩
  have hb3 := below_then hb2 h3
  cases z with
  | false =>
    (repeat with_reducible first|refine z_a ?_|refine z_b ?_|refine z_c ?_|refine z_d ?_|refine z_e ?_|refine z_f ?_|refine z_g ?_|refine z_h ?_|refine z_i ?_|refine z_j ?_|refine z_k ?_|refine z_l ?_|refine z_m (by omega) ?_|refine z_n (by omega) ?_|refine z_o (by omega) ?_|refine z_p (by omega) ?_|refine z_q (by omega) ?_|refine z_r (by omega) ?_|refine z_s (by omega) ?_|refine z_t (by omega) ?_|refine z_u (by omega) ?_|refine z_v (by omega) ?_|refine z_w (by omega) ?_|refine z_x (by omega) ?_|refine z_y (by omega) ?_|refine z_z (by omega) ?_|refine z_A ?_|refine z_B ?_|refine z_C ?_|refine z_D ?_|refine z_E ?_|refine z_F ?_|refine z_G ?_|refine z_H ?_|refine z_I ?_)
    exact ⟨rfl, hb3⟩
  | true =>
  obtain ⟨hm60, hmf⟩ := hz rfl
  (repeat with_reducible first|refine z_a ?_|refine z_b ?_|refine z_c ?_|refine z_d ?_|refine z_e ?_|refine z_f ?_|refine z_g ?_|refine z_h ?_|refine z_i ?_|refine z_j ?_|refine z_k ?_|refine z_l ?_|refine z_m (by omega) ?_|refine z_n (by omega) ?_|refine z_o (by omega) ?_|refine z_p (by omega) ?_|refine z_q (by omega) ?_|refine z_r (by omega) ?_|refine z_s (by omega) ?_|refine z_t (by omega) ?_|refine z_u (by omega) ?_|refine z_v (by omega) ?_|refine z_w (by omega) ?_|refine z_x (by omega) ?_|refine z_y (by omega) ?_|refine z_z (by omega) ?_|refine z_A ?_|refine z_B ?_|refine z_C ?_|refine z_D ?_|refine z_E ?_|refine z_F ?_|refine z_G ?_|refine z_H ?_|refine z_I ?_)
  refine tln undT9 ?_
  (repeat with_reducible first|refine z_a ?_|refine z_b ?_|refine z_c ?_|refine z_d ?_|refine z_e ?_|refine z_f ?_|refine z_g ?_|refine z_h ?_|refine z_i ?_|refine z_j ?_|refine z_k ?_|refine z_l ?_|refine z_m (by omega) ?_|refine z_n (by omega) ?_|refine z_o (by omega) ?_|refine z_p (by omega) ?_|refine z_q (by omega) ?_|refine z_r (by omega) ?_|refine z_s (by omega) ?_|refine z_t (by omega) ?_|refine z_u (by omega) ?_|refine z_v (by omega) ?_|refine z_w (by omega) ?_|refine z_x (by omega) ?_|refine z_y (by omega) ?_|refine z_z (by omega) ?_|refine z_A ?_|refine z_B ?_|refine z_C ?_|refine z_D ?_|refine z_E ?_|refine z_F ?_|refine z_G ?_|refine z_H ?_|refine z_I ?_)
  refine bi_gtr_c (fun h20 => ?_) (fun h20 => ?_)
  · (repeat with_reducible first|refine z_a ?_|refine z_b ?_|refine z_c ?_|refine z_d ?_|refine z_e ?_|refine z_f ?_|refine z_g ?_|refine z_h ?_|refine z_i ?_|refine z_j ?_|refine z_k ?_|refine z_l ?_|refine z_m (by omega) ?_|refine z_n (by omega) ?_|refine z_o (by omega) ?_|refine z_p (by omega) ?_|refine z_q (by omega) ?_|refine z_r (by omega) ?_|refine z_s (by omega) ?_|refine z_t (by omega) ?_|refine z_u (by omega) ?_|refine z_v (by omega) ?_|refine z_w (by omega) ?_|refine z_x (by omega) ?_|refine z_y (by omega) ?_|refine z_z (by omega) ?_|refine z_A ?_|refine z_B ?_|refine z_C ?_|refine z_D ?_|refine z_E ?_|refine z_F ?_|refine z_G ?_|refine z_H ?_|refine z_I ?_)
    exact ⟨rfl, hb3⟩
  (repeat with_reducible first|refine z_a ?_|refine z_b ?_|refine z_c ?_|refine z_d ?_|refine z_e ?_|refine z_f ?_|refine z_g ?_|refine z_h ?_|refine z_i ?_|refine z_j ?_|refine z_k ?_|refine z_l ?_|refine z_m (by omega) ?_|refine z_n (by omega) ?_|refine z_o (by omega) ?_|refine z_p (by omega) ?_|refine z_q (by omega) ?_|refine z_r (by omega) ?_|refine z_s (by omega) ?_|refine z_t (by omega) ?_|refine z_u (by omega) ?_|refine z_v (by omega) ?_|refine z_w (by omega) ?_|refine z_x (by omega) ?_|refine z_y (by omega) ?_|refine z_z (by omega) ?_|refine z_A ?_|refine z_B ?_|refine z_C ?_|refine z_D ?_|refine z_E ?_|refine z_F ?_|refine z_G ?_|refine z_H ?_|refine z_I ?_)
  have hbl : bs.length ≤ 2000 := by omega
  -- whatever the text is: what follows is asked behind it
  apply cutW (Q := fun w5 => Below w.heap.size w w5)
  · intro key
    refine (Load24 1 (by decide) (fun _ => 0) ⟨bs.toArray⟩ (by show bs.toArray.size ≤ _; simp; omega) w3).mono ?_
    rintro r w4 ⟨hr, h4⟩
    have hb4 := below_then hb3 h4
    have e0 : (⟨bs.toArray⟩ : ByteArray).data.toList = bs := rfl
    rw [e0] at hr
    cases hL : loadB bs with
    | none =>
      rw [hL] at hr
      replace hr : r = .tuple #[.pointer none, .int .i64 3] := hr
      subst hr
      (repeat with_reducible first|refine z_a ?_|refine z_b ?_|refine z_c ?_|refine z_d ?_|refine z_e ?_|refine z_f ?_|refine z_g ?_|refine z_h ?_|refine z_i ?_|refine z_j ?_|refine z_k ?_|refine z_l ?_|refine z_m (by omega) ?_|refine z_n (by omega) ?_|refine z_o (by omega) ?_|refine z_p (by omega) ?_|refine z_q (by omega) ?_|refine z_r (by omega) ?_|refine z_s (by omega) ?_|refine z_t (by omega) ?_|refine z_u (by omega) ?_|refine z_v (by omega) ?_|refine z_w (by omega) ?_|refine z_x (by omega) ?_|refine z_y (by omega) ?_|refine z_z (by omega) ?_|refine z_A ?_|refine z_B ?_|refine z_C ?_|refine z_D ?_|refine z_E ?_|refine z_F ?_|refine z_G ?_|refine z_H ?_|refine z_I ?_)
      refine nnilP undBp ?_
      simp only [Option.isSome_none]
      (repeat with_reducible first|refine z_a ?_|refine z_b ?_|refine z_c ?_|refine z_d ?_|refine z_e ?_|refine z_f ?_|refine z_g ?_|refine z_h ?_|refine z_i ?_|refine z_j ?_|refine z_k ?_|refine z_l ?_|refine z_m (by omega) ?_|refine z_n (by omega) ?_|refine z_o (by omega) ?_|refine z_p (by omega) ?_|refine z_q (by omega) ?_|refine z_r (by omega) ?_|refine z_s (by omega) ?_|refine z_t (by omega) ?_|refine z_u (by omega) ?_|refine z_v (by omega) ?_|refine z_w (by omega) ?_|refine z_x (by omega) ?_|refine z_y (by omega) ?_|refine z_z (by omega) ?_|refine z_A ?_|refine z_B ?_|refine z_C ?_|refine z_D ?_|refine z_E ?_|refine z_F ?_|refine z_G ?_|refine z_H ?_|refine z_I ?_)
      exact key w4 hb4
    | some V =>
      rw [hL] at hr
      obtain ⟨g, c', rfl, hc', hS⟩ := hr
      obtain ⟨hsv, hok⟩ := load_form hL
      (repeat with_reducible first|refine z_a ?_|refine z_b ?_|refine z_c ?_|refine z_d ?_|refine z_e ?_|refine z_f ?_|refine z_g ?_|refine z_h ?_|refine z_i ?_|refine z_j ?_|refine z_k ?_|refine z_l ?_|refine z_m (by omega) ?_|refine z_n (by omega) ?_|refine z_o (by omega) ?_|refine z_p (by omega) ?_|refine z_q (by omega) ?_|refine z_r (by omega) ?_|refine z_s (by omega) ?_|refine z_t (by omega) ?_|refine z_u (by omega) ?_|refine z_v (by omega) ?_|refine z_w (by omega) ?_|refine z_x (by omega) ?_|refine z_y (by omega) ?_|refine z_z (by omega) ?_|refine z_A ?_|refine z_B ?_|refine z_C ?_|refine z_D ?_|refine z_E ?_|refine z_F ?_|refine z_G ?_|refine z_H ?_|refine z_I ?_)
      refine nilP undBp ?_
      simp only [Option.isNone_some]
      (repeat with_reducible first|refine z_a ?_|refine z_b ?_|refine z_c ?_|refine z_d ?_|refine z_e ?_|refine z_f ?_|refine z_g ?_|refine z_h ?_|refine z_i ?_|refine z_j ?_|refine z_k ?_|refine z_l ?_|refine z_m (by omega) ?_|refine z_n (by omega) ?_|refine z_o (by omega) ?_|refine z_p (by omega) ?_|refine z_q (by omega) ?_|refine z_r (by omega) ?_|refine z_s (by omega) ?_|refine z_t (by omega) ?_|refine z_u (by omega) ?_|refine z_v (by omega) ?_|refine z_w (by omega) ?_|refine z_x (by omega) ?_|refine z_y (by omega) ?_|refine z_z (by omega) ?_|refine z_A ?_|refine z_B ?_|refine z_C ?_|refine z_D ?_|refine z_E ?_|refine z_F ?_|refine z_G ?_|refine z_H ?_|refine z_I ?_)
      refine (Save25 hS hok (by omega) (by rw [hsv]; omega) fun x hx t ht => by have := ends_save hx ht; rw [hsv] at this; omega).mono ?_
      rintro _ w5 ⟨rfl, h5⟩
      rw [hsv]
      (repeat with_reducible first|refine z_a ?_|refine z_b ?_|refine z_c ?_|refine z_d ?_|refine z_e ?_|refine z_f ?_|refine z_g ?_|refine z_h ?_|refine z_i ?_|refine z_j ?_|refine z_k ?_|refine z_l ?_|refine z_m (by omega) ?_|refine z_n (by omega) ?_|refine z_o (by omega) ?_|refine z_p (by omega) ?_|refine z_q (by omega) ?_|refine z_r (by omega) ?_|refine z_s (by omega) ?_|refine z_t (by omega) ?_|refine z_u (by omega) ?_|refine z_v (by omega) ?_|refine z_w (by omega) ?_|refine z_x (by omega) ?_|refine z_y (by omega) ?_|refine z_z (by omega) ?_|refine z_A ?_|refine z_B ?_|refine z_C ?_|refine z_D ?_|refine z_E ?_|refine z_F ?_|refine z_G ?_|refine z_H ?_|refine z_I ?_)
      refine bi_sneq_f rfl ?_
      (repeat with_reducible first|refine z_a ?_|refine z_b ?_|refine z_c ?_|refine z_d ?_|refine z_e ?_|refine z_f ?_|refine z_g ?_|refine z_h ?_|refine z_i ?_|refine z_j ?_|refine z_k ?_|refine z_l ?_|refine z_m (by omega) ?_|refine z_n (by omega) ?_|refine z_o (by omega) ?_|refine z_p (by omega) ?_|refine z_q (by omega) ?_|refine z_r (by omega) ?_|refine z_s (by omega) ?_|refine z_t (by omega) ?_|refine z_u (by omega) ?_|refine z_v (by omega) ?_|refine z_w (by omega) ?_|refine z_x (by omega) ?_|refine z_y (by omega) ?_|refine z_z (by omega) ?_|refine z_A ?_|refine z_B ?_|refine z_C ?_|refine z_D ?_|refine z_E ?_|refine z_F ?_|refine z_G ?_|refine z_H ?_|refine z_I ?_)
      exact key w5 (below_then hb4 h5)
  intro w4 hb4
  have okL : ActsOk w4 v l := ⟨keeps_AcB _ _ _ _ hb4 hv, hl60, hlf, hl64⟩
  have okM : ActsOk w4 u m := ⟨keeps_AcB _ _ _ _ hb4 hu, hm60, hmf, hm64⟩
  clear hv hu hb1 h2 hb2 h3 hb3
  refine alB zA1 ?_
  intro p w5 hp hB5 h5
  have M5 := (MemL.nil w4).arrNew (hu := 7) (by decide) hp hB5 h5
  refine alB zA2 ?_
  intro q w6 hq hB6 h6
  have M6 : MemL w4 w6 [obA 7 p 59 #[.pointer none, .pointer none], obA 8 q 60 #[.pointer none, .pointer none]] := M5.arrNew (hu := 8) (by decide) hq hB6 h6
  refine LoopP.inv1 (fun iv w' => ∃ i : Nat, i ≤ 2 ∧ iv = .int .i64 i ∧ OutI w4 w' p q i) (fun iv _ => 2 - (intOf iv).toNat) ⟨0, by omega, rfl, _, _, [], rfl, rfl, M6, by simp, fun j hj => by omega⟩ ?_
  clear M5 M6 hB5 hB6 h5 h6 hq hp
  rintro _ w7 ⟨i, hi2, rfl, c, d, O, hc2, hd2, M7, hO, hdone⟩ J hJ
  dsimp only [List.headD_cons, List.tail_cons]
  refine bi_lss_c (fun hlt => ?_) (fun hlt => ?_)
  rotate_left
  · have : i = 2 := by omega
    subst this
    (repeat with_reducible first|refine z_a ?_|refine z_b ?_|refine z_c ?_|refine z_d ?_|refine z_e ?_|refine z_f ?_|refine z_g ?_|refine z_h ?_|refine z_i ?_|refine z_j ?_|refine z_k ?_|refine z_l ?_|refine z_m (by omega) ?_|refine z_n (by omega) ?_|refine z_o (by omega) ?_|refine z_p (by omega) ?_|refine z_q (by omega) ?_|refine z_r (by omega) ?_|refine z_s (by omega) ?_|refine z_t (by omega) ?_|refine z_u (by omega) ?_|refine z_v (by omega) ?_|refine z_w (by omega) ?_|refine z_x (by omega) ?_|refine z_y (by omega) ?_|refine z_z (by omega) ?_|refine z_A ?_|refine z_B ?_|refine z_C ?_|refine z_D ?_|refine z_E ?_|refine z_F ?_|refine z_G ?_|refine z_H ?_|refine z_I ?_)
    obtain ⟨g1, g2, V1, R1, m1, m2, e1, e2, s1⟩ := hdone 0 (by omega)
    obtain ⟨g3, g4, V2, R2, m3, m4, e3, e4, s2⟩ := hdone 1 (by omega)
    generalize hL : obA 7 p 59 c :: obA 8 q 60 d :: O = L at M7
    have mp : obA 7 p 59 c ∈ L := by rw [← hL]; simp
    have mq : obA 8 q 60 d ∈ L := by rw [← hL]; simp
    replace m1 : obD (2 * 0 + 1) g1 V1 ∈ L := by rw [← hL]; simp only [List.mem_cons]; exact .inr (.inr m1)
    replace m2 : obE (2 * 0 + 2) g2 R1 ∈ L := by rw [← hL]; simp only [List.mem_cons]; exact .inr (.inr m2)
    replace m3 : obD (2 * 1 + 1) g3 V2 ∈ L := by rw [← hL]; simp only [List.mem_cons]; exact .inr (.inr m3)
    replace m4 : obE (2 * 1 + 2) g4 R2 ∈ L := by rw [← hL]; simp only [List.mem_cons]; exact .inr (.inr m4)
    clear hL hdone hO
    have k1 : ∀ y, MemL w4 y L → y.cell? ⟨p, 0, none⟩ = some (pt g1) := fun y h => ((h.arr mp).cell 0).trans e1
    have k3 : ∀ y, MemL w4 y L → y.cell? ⟨p, 1, none⟩ = some (pt g3) := fun y h => ((h.arr mp).cell 1).trans e3
    have k2 : ∀ y, MemL w4 y L → y.cell? ⟨q, 0, none⟩ = some (pt g2) := fun y h => ((h.arr mq).cell 0).trans e2
    have k4 : ∀ y, MemL w4 y L → y.cell? ⟨q, 1, none⟩ = some (pt g4) := fun y h => ((h.arr mq).cell 1).trans e4
    have hdr : Below w7.heap.size w7 w7.drew := (Below.refl _ _).drew
    have M8 := M7.below hdr
    refine draw (fun y => MemL w4 y L) M8 ?_
    refine yixB undA1 szPb 0 (by decide) ?_
    refine yl1 onePb k1 ?_
    refine yixB undA1 szPb 1 (by decide) ?_
    refine yl1 onePb k3 ?_
    refine yixB undA1 szPb 0 (by decide) ?_
    refine yl1 onePb k1 ?_
    refine yixB undA2 szPr 1 (by decide) ?_
    refine yl1 onePr k4 ?_
    refine act ?_
    refine (callSaveM M8 m1 s1 (by omega)).mono ?_
    rintro _ wa ⟨rfl, Ma⟩
    refine ⟨_, Ma, fun _ h => h, ?_⟩
    refine act ?_
    refine (callSaveM Ma m3 s2 (by omega)).mono ?_
    rintro _ wb ⟨rfl, Mb⟩
    refine ⟨_, Mb, fun _ h => h, ?_⟩
    refine yi_seql ?_
    refine act ?_
    refine (callSameM Mb m1 m4 s1.toStepB s2.toStepB (by omega)).mono ?_
    rintro _ wc ⟨b1, rfl, hb1, Mc⟩
    refine ⟨_, Mc, fun _ h => h, ?_⟩
    have hx := cross s1 s2 (by omega)
    have fin : ∀ (wd : World) (x : Bool), MemL w4 wd L → (x = true ↔ (sameP V1 R2 (veV R2) ∧ sameP V2 R1 (veV R1))) → Value.bool (decide (decide (saveB V1 = saveB V2) = x)) = Value.bool true ∧ Below w.heap.size w wd := fun wd x Md hx' => by
      refine ⟨?_, below_then hb4 Md.bel⟩
      have : decide (saveB V1 = saveB V2) = x := by
        cases x with
        | true => exact decide_eq_true (hx.2 (hx'.1 rfl))
        | false => exact decide_eq_false fun e => by have := hx'.2 (hx.1 e); cases this
      rw [this, decide_eq_true rfl]
    cases b1 with
    | false =>
      (repeat with_reducible first | refine gaU ?_|refine z_J ?_|refine z_a ?_|refine z_b ?_|refine z_c ?_|refine z_d ?_|refine z_e ?_|refine z_f ?_|refine z_g ?_|refine z_h ?_|refine z_i ?_|refine z_j ?_|refine z_k ?_|refine z_l ?_|refine z_K (by omega) ?_|refine z_L (by omega) ?_|refine z_M (by omega) ?_|refine z_N (by omega) ?_|refine z_O (by omega) ?_|refine z_P (by omega) ?_|refine z_Q (by omega) ?_|refine z_R (by omega) ?_|refine z_S (by omega) ?_|refine z_T (by omega) ?_|refine z_U (by omega) ?_|refine z_V (by omega) ?_|refine z_W (by omega) ?_|refine z_X (by omega) ?_|refine z_Y ?_|refine z_Z ?_|refine z_a1 ?_|refine z_b1 ?_|refine z_c1 ?_|refine z_d1 ?_|refine z_e1 ?_|refine z_f1 ?_|refine z_g1 ?_)
      refine yi_beql undBo ?_
      (repeat with_reducible first|refine z_a ?_|refine z_b ?_|refine z_c ?_|refine z_d ?_|refine z_e ?_|refine z_f ?_|refine z_g ?_|refine z_h ?_|refine z_i ?_|refine z_j ?_|refine z_k ?_|refine z_l ?_|refine z_m (by omega) ?_|refine z_n (by omega) ?_|refine z_o (by omega) ?_|refine z_p (by omega) ?_|refine z_q (by omega) ?_|refine z_r (by omega) ?_|refine z_s (by omega) ?_|refine z_t (by omega) ?_|refine z_u (by omega) ?_|refine z_v (by omega) ?_|refine z_w (by omega) ?_|refine z_x (by omega) ?_|refine z_y (by omega) ?_|refine z_z (by omega) ?_|refine z_A ?_|refine z_B ?_|refine z_C ?_|refine z_D ?_|refine z_E ?_|refine z_F ?_|refine z_G ?_|refine z_H ?_|refine z_I ?_)
      exact fin wc false Mc ⟨fun e => (by cases e), fun e => (by have := hb1.2 e.1; cases this)⟩
    | true =>
      (repeat with_reducible first|refine z_J ?_|refine z_a ?_|refine z_b ?_|refine z_c ?_|refine z_d ?_|refine z_e ?_|refine z_f ?_|refine z_g ?_|refine z_h ?_|refine z_i ?_|refine z_j ?_|refine z_k ?_|refine z_l ?_|refine z_K (by omega) ?_|refine z_L (by omega) ?_|refine z_M (by omega) ?_|refine z_N (by omega) ?_|refine z_O (by omega) ?_|refine z_P (by omega) ?_|refine z_Q (by omega) ?_|refine z_R (by omega) ?_|refine z_S (by omega) ?_|refine z_T (by omega) ?_|refine z_U (by omega) ?_|refine z_V (by omega) ?_|refine z_W (by omega) ?_|refine z_X (by omega) ?_|refine z_Y ?_|refine z_Z ?_|refine z_a1 ?_|refine z_b1 ?_|refine z_c1 ?_|refine z_d1 ?_|refine z_e1 ?_|refine z_f1 ?_|refine z_g1 ?_)
      refine yixB undA1 szPb 1 (by decide) ?_
      (repeat with_reducible first|refine z_J ?_|refine z_a ?_|refine z_b ?_|refine z_c ?_|refine z_d ?_|refine z_e ?_|refine z_f ?_|refine z_g ?_|refine z_h ?_|refine z_i ?_|refine z_j ?_|refine z_k ?_|refine z_l ?_|refine z_K (by omega) ?_|refine z_L (by omega) ?_|refine z_M (by omega) ?_|refine z_N (by omega) ?_|refine z_O (by omega) ?_|refine z_P (by omega) ?_|refine z_Q (by omega) ?_|refine z_R (by omega) ?_|refine z_S (by omega) ?_|refine z_T (by omega) ?_|refine z_U (by omega) ?_|refine z_V (by omega) ?_|refine z_W (by omega) ?_|refine z_X (by omega) ?_|refine z_Y ?_|refine z_Z ?_|refine z_a1 ?_|refine z_b1 ?_|refine z_c1 ?_|refine z_d1 ?_|refine z_e1 ?_|refine z_f1 ?_|refine z_g1 ?_)
      refine yl1 onePb k3 ?_
      (repeat with_reducible first|refine z_J ?_|refine z_a ?_|refine z_b ?_|refine z_c ?_|refine z_d ?_|refine z_e ?_|refine z_f ?_|refine z_g ?_|refine z_h ?_|refine z_i ?_|refine z_j ?_|refine z_k ?_|refine z_l ?_|refine z_K (by omega) ?_|refine z_L (by omega) ?_|refine z_M (by omega) ?_|refine z_N (by omega) ?_|refine z_O (by omega) ?_|refine z_P (by omega) ?_|refine z_Q (by omega) ?_|refine z_R (by omega) ?_|refine z_S (by omega) ?_|refine z_T (by omega) ?_|refine z_U (by omega) ?_|refine z_V (by omega) ?_|refine z_W (by omega) ?_|refine z_X (by omega) ?_|refine z_Y ?_|refine z_Z ?_|refine z_a1 ?_|refine z_b1 ?_|refine z_c1 ?_|refine z_d1 ?_|refine z_e1 ?_|refine z_f1 ?_|refine z_g1 ?_)
      refine yixB undA2 szPr 0 (by decide) ?_
      (repeat with_reducible first|refine z_J ?_|refine z_a ?_|refine z_b ?_|refine z_c ?_|refine z_d ?_|refine z_e ?_|refine z_f ?_|refine z_g ?_|refine z_h ?_|refine z_i ?_|refine z_j ?_|refine z_k ?_|refine z_l ?_|refine z_K (by omega) ?_|refine z_L (by omega) ?_|refine z_M (by omega) ?_|refine z_N (by omega) ?_|refine z_O (by omega) ?_|refine z_P (by omega) ?_|refine z_Q (by omega) ?_|refine z_R (by omega) ?_|refine z_S (by omega) ?_|refine z_T (by omega) ?_|refine z_U (by omega) ?_|refine z_V (by omega) ?_|refine z_W (by omega) ?_|refine z_X (by omega) ?_|refine z_Y ?_|refine z_Z ?_|refine z_a1 ?_|refine z_b1 ?_|refine z_c1 ?_|refine z_d1 ?_|refine z_e1 ?_|refine z_f1 ?_|refine z_g1 ?_)
      refine yl1 onePr k2 ?_
      (repeat with_reducible first|refine z_J ?_|refine z_a ?_|refine z_b ?_|refine z_c ?_|refine z_d ?_|refine z_e ?_|refine z_f ?_|refine z_g ?_|refine z_h ?_|refine z_i ?_|refine z_j ?_|refine z_k ?_|refine z_l ?_|refine z_K (by omega) ?_|refine z_L (by omega) ?_|refine z_M (by omega) ?_|refine z_N (by omega) ?_|refine z_O (by omega) ?_|refine z_P (by omega) ?_|refine z_Q (by omega) ?_|refine z_R (by omega) ?_|refine z_S (by omega) ?_|refine z_T (by omega) ?_|refine z_U (by omega) ?_|refine z_V (by omega) ?_|refine z_W (by omega) ?_|refine z_X (by omega) ?_|refine z_Y ?_|refine z_Z ?_|refine z_a1 ?_|refine z_b1 ?_|refine z_c1 ?_|refine z_d1 ?_|refine z_e1 ?_|refine z_f1 ?_|refine z_g1 ?_)
      refine act ?_
      refine (callSameM Mc m3 m2 s2.toStepB s1.toStepB (by omega)).mono ?_
      rintro _ wd ⟨b2, rfl, hb2, Md⟩
      refine ⟨_, Md, fun _ h => h, ?_⟩
      (repeat with_reducible first|refine z_J ?_|refine z_a ?_|refine z_b ?_|refine z_c ?_|refine z_d ?_|refine z_e ?_|refine z_f ?_|refine z_g ?_|refine z_h ?_|refine z_i ?_|refine z_j ?_|refine z_k ?_|refine z_l ?_|refine z_K (by omega) ?_|refine z_L (by omega) ?_|refine z_M (by omega) ?_|refine z_N (by omega) ?_|refine z_O (by omega) ?_|refine z_P (by omega) ?_|refine z_Q (by omega) ?_|refine z_R (by omega) ?_|refine z_S (by omega) ?_|refine z_T (by omega) ?_|refine z_U (by omega) ?_|refine z_V (by omega) ?_|refine z_W (by omega) ?_|refine z_X (by omega) ?_|refine z_Y ?_|refine z_Z ?_|refine z_a1 ?_|refine z_b1 ?_|refine z_c1 ?_|refine z_d1 ?_|refine z_e1 ?_|refine z_f1 ?_|refine z_g1 ?_)
      refine yi_beql undBo ?_
      (repeat with_reducible first|refine z_a ?_|refine z_b ?_|refine z_c ?_|refine z_d ?_|refine z_e ?_|refine z_f ?_|refine z_g ?_|refine z_h ?_|refine z_i ?_|refine z_j ?_|refine z_k ?_|refine z_l ?_|refine z_m (by omega) ?_|refine z_n (by omega) ?_|refine z_o (by omega) ?_|refine z_p (by omega) ?_|refine z_q (by omega) ?_|refine z_r (by omega) ?_|refine z_s (by omega) ?_|refine z_t (by omega) ?_|refine z_u (by omega) ?_|refine z_v (by omega) ?_|refine z_w (by omega) ?_|refine z_x (by omega) ?_|refine z_y (by omega) ?_|refine z_z (by omega) ?_|refine z_A ?_|refine z_B ?_|refine z_C ?_|refine z_D ?_|refine z_E ?_|refine z_F ?_|refine z_G ?_|refine z_H ?_|refine z_I ?_)
      exact fin wd b2 Md ⟨fun e => ⟨hb1.1 rfl, hb2.1 e⟩, fun e => hb2.2 e.2⟩
  -- one of the two
  (repeat with_reducible first|refine z_a ?_|refine z_b ?_|refine z_c ?_|refine z_d ?_|refine z_e ?_|refine z_f ?_|refine z_g ?_|refine z_h ?_|refine z_i ?_|refine z_j ?_|refine z_k ?_|refine z_l ?_|refine z_m (by omega) ?_|refine z_n (by omega) ?_|refine z_o (by omega) ?_|refine z_p (by omega) ?_|refine z_q (by omega) ?_|refine z_r (by omega) ?_|refine z_s (by omega) ?_|refine z_t (by omega) ?_|refine z_u (by omega) ?_|refine z_v (by omega) ?_|refine z_w (by omega) ?_|refine z_x (by omega) ?_|refine z_y (by omega) ?_|refine z_z (by omega) ?_|refine z_A ?_|refine z_B ?_|refine z_C ?_|refine z_D ?_|refine z_E ?_|refine z_F ?_|refine z_G ?_|refine z_H ?_|refine z_I ?_)
  have hi' : i < 2 := by omega
  obtain ⟨c0, mk0⟩ := M7.make
  refine (New9 (2 * i + 1) (by omega) c0 w7).mono ?_
  rintro _ w8 ⟨g1, c8, rfl, hc8, hS8, h8⟩
  have M8 : MemL w4 w8 (obA 7 p 59 c :: (obA 8 q 60 d :: (O ++ [obD (2 * i + 1) g1 []]))) := mk0 (obD (2 * i + 1) g1 []) w8 ⟨c8, hc8, hS8, h8⟩
  have hB8 := M8.arr (hu := 7) (g := p) (t := 59) (cs := c) (by simp)
  refine ixB undA1 szPb hi' ?_
  refine st szPb rfl (by rw [hB8.cell i, Array.getElem?_eq_getElem (by omega)]; rfl) (hB8.frozen i) ?_
  have M9 := MemL.arrPut (A := []) M8 (fun x hx => by
    simp only [List.nil_append, List.mem_append, List.mem_cons, List.not_mem_nil, or_false] at hx
    rcases hx with rfl | hx | rfl
    · show 8 ≠ 7; omega
    · have := hO x hx; omega
    · show 2 * i + 1 ≠ 7; omega) i (pt g1)
  refine bd (cells := #[.slice none 0 0, .int .i64 0]) (by kernel_rfl) ?_
  obtain ⟨c1, mk1⟩ := M9.make
  refine bxB ?_
  intro g2 wa hg2 hBa ha
  have Ma : MemL w4 wa ([obA 7 p 59 (c.setIfInBounds i (pt g1))] ++ obA 8 q 60 d :: ((O ++ [obD (2 * i + 1) g1 []]) ++ [obE (2 * i + 2) g2 []])) := mk1 (obE (2 * i + 2) g2 []) wa ⟨col c1 _ (2 * i + 2), col_lt _ _ _, RbS.new (2 * i + 2) (by omega) c1 (Nat.le_of_eq hg2.symm) hBa, ha⟩
  have hBq := Ma.arr (hu := 8) (g := q) (t := 60) (cs := d) (by simp)
  refine ixB undA2 szPr hi' ?_
  refine st szPr rfl (by rw [hBq.cell i, Array.getElem?_eq_getElem (by omega)]; rfl) (hBq.frozen i) ?_
  have Mb := MemL.arrPut (A := [obA 7 p 59 (c.setIfInBounds i (pt g1))]) Ma (fun x hx => by
    simp only [List.mem_append, List.mem_cons, List.not_mem_nil, or_false] at hx
    rcases hx with rfl | (hx | rfl) | rfl
    · show 7 ≠ 8; omega
    · have := hO x hx; omega
    · show 2 * i + 1 ≠ 8; omega
    · show 2 * i + 2 ≠ 8; omega) i (pt g2)
  have hc2' : (c.setIfInBounds i (pt g1)).size = 2 := by rw [Array.size_setIfInBounds]; exact hc2
  have hd2' : (d.setIfInBounds i (pt g2)).size = 2 := by rw [Array.size_setIfInBounds]; exact hd2
  have hci : (c.setIfInBounds i (pt g1))[i]? = some (pt g1) := by rw [Array.getElem?_setIfInBounds]; simp; omega
  have hdi : (d.setIfInBounds i (pt g2))[i]? = some (pt g2) := by rw [Array.getElem?_setIfInBounds]; simp; omega
  have hcj : ∀ j, j < i → (c.setIfInBounds i (pt g1))[j]? = c[j]? := fun j hj => by rw [Array.getElem?_setIfInBounds, if_neg (by omega)]
  have hdj : ∀ j, j < i → (d.setIfInBounds i (pt g2))[j]? = d[j]? := fun j hj => by rw [Array.getElem?_setIfInBounds, if_neg (by omega)]
  generalize c.setIfInBounds i (pt g1) = c' at *
  generalize d.setIfInBounds i (pt g2) = d' at *
  have Mc : MemL w4 (wa.setCell ⟨q, i, none⟩ (.pointer (some ⟨g2, 0, none⟩))) (obD (2 * i + 1) g1 [] :: obE (2 * i + 1 + 1) g2 [] :: obA 7 p 59 c' :: obA 8 q 60 d' :: O) := Mb.sub fun o ho => by
    simp only [List.mem_append, List.mem_cons, List.not_mem_nil, or_false] at ho ⊢
    rcases ho with h | h | h | h | h <;> simp [h]
  have hR : ∀ x ∈ obA 7 p 59 c' :: obA 8 q 60 d' :: O, x.hu ≠ 2 * i + 1 ∧ x.hu ≠ 2 * i + 1 + 1 := fun x hx => by
    simp only [List.mem_cons] at hx
    rcases hx with rfl | rfl | hx
    · show 7 ≠ 2 * i + 1 ∧ 7 ≠ 2 * i + 1 + 1; omega
    · show 8 ≠ 2 * i + 1 ∧ 8 ≠ 2 * i + 1 + 1; omega
    · have := hO x hx; omega
  clear Mb Ma M9 M8 M7 hB8 hBq hBa ha
  generalize wa.setCell ⟨q, i, none⟩ (.pointer (some ⟨g2, 0, none⟩)) = wb at Mc ⊢
  generalize hT : obA 7 p 59 c' :: obA 8 q 60 d' :: O = T at *
  have mp : obA 7 p 59 c' ∈ T := by rw [← hT]; simp
  have mq : obA 8 q 60 d' ∈ T := by rw [← hT]; simp
  refine JoinP.cut (fun xs w' => ∃ va la, xs = [va] ∧ ActsOk w4 va la ∧ MemL w4 w' (obD (2 * i + 1) g1 [] :: obE (2 * i + 1 + 1) g2 [] :: T)) (fun J1 hJ1 => ?_) (fun xs w' hI => ?_)
  · refine bi_eql_c (fun e1 => ?_) (fun e1 => ?_)
    · (repeat with_reducible first|refine z_a ?_|refine z_b ?_|refine z_c ?_|refine z_d ?_|refine z_e ?_|refine z_f ?_|refine z_g ?_|refine z_h ?_|refine z_i ?_|refine z_j ?_|refine z_k ?_|refine z_l ?_|refine z_m (by omega) ?_|refine z_n (by omega) ?_|refine z_o (by omega) ?_|refine z_p (by omega) ?_|refine z_q (by omega) ?_|refine z_r (by omega) ?_|refine z_s (by omega) ?_|refine z_t (by omega) ?_|refine z_u (by omega) ?_|refine z_v (by omega) ?_|refine z_w (by omega) ?_|refine z_x (by omega) ?_|refine z_y (by omega) ?_|refine z_z (by omega) ?_|refine z_A ?_|refine z_B ?_|refine z_C ?_|refine z_D ?_|refine z_E ?_|refine z_F ?_|refine z_G ?_|refine z_H ?_|refine z_I ?_)
      exact hJ1 _ _ ⟨_, _, rfl, okM, Mc⟩
    · (repeat with_reducible first|refine z_a ?_|refine z_b ?_|refine z_c ?_|refine z_d ?_|refine z_e ?_|refine z_f ?_|refine z_g ?_|refine z_h ?_|refine z_i ?_|refine z_j ?_|refine z_k ?_|refine z_l ?_|refine z_m (by omega) ?_|refine z_n (by omega) ?_|refine z_o (by omega) ?_|refine z_p (by omega) ?_|refine z_q (by omega) ?_|refine z_r (by omega) ?_|refine z_s (by omega) ?_|refine z_t (by omega) ?_|refine z_u (by omega) ?_|refine z_v (by omega) ?_|refine z_w (by omega) ?_|refine z_x (by omega) ?_|refine z_y (by omega) ?_|refine z_z (by omega) ?_|refine z_A ?_|refine z_B ?_|refine z_C ?_|refine z_D ?_|refine z_E ?_|refine z_F ?_|refine z_G ?_|refine z_H ?_|refine z_I ?_)
      exact hJ1 _ _ ⟨_, _, rfl, okL, Mc⟩
  clear Mc
  obtain ⟨va, la, rfl, okA, Mc⟩ := hI
  dsimp only [List.headD_cons, List.tail_cons]
  obtain ⟨A, cA, rfl, hcA, hmA⟩ := okA.rd.slice
  have hv2 := okA.rd
  refine LoopP.inv1 (fun kv w' => ∃ (k : Nat) (V R : BdV), k ≤ la.length ∧ kv = .int .i64 k ∧ StepS (k + 1) V R ∧ MemL w4 w' (obD (2 * i + 1) g1 V :: obE (2 * i + 1 + 1) g2 R :: T)) (fun kv _ => la.length - (intOf kv).toNat) ⟨0, [], [], by omega, rfl, StepS.nil, Mc⟩ ?_
  clear Mc
  rintro _ w9 ⟨k2, V, R, hk2, rfl, hs, M9⟩ J2 hJ2
  dsimp only [List.headD_cons, List.tail_cons]
  have hla := okA.most
  refine ln undAs ?_
  refine bi_lss_c (fun hlt2 => ?_) (fun hlt2 => ?_)
  rotate_left
  · (repeat with_reducible first|refine z_a ?_|refine z_b ?_|refine z_c ?_|refine z_d ?_|refine z_e ?_|refine z_f ?_|refine z_g ?_|refine z_h ?_|refine z_i ?_|refine z_j ?_|refine z_k ?_|refine z_l ?_|refine z_m (by omega) ?_|refine z_n (by omega) ?_|refine z_o (by omega) ?_|refine z_p (by omega) ?_|refine z_q (by omega) ?_|refine z_r (by omega) ?_|refine z_s (by omega) ?_|refine z_t (by omega) ?_|refine z_u (by omega) ?_|refine z_v (by omega) ?_|refine z_w (by omega) ?_|refine z_x (by omega) ?_|refine z_y (by omega) ?_|refine z_z (by omega) ?_|refine z_A ?_|refine z_B ?_|refine z_C ?_|refine z_D ?_|refine z_E ?_|refine z_F ?_|refine z_G ?_|refine z_H ?_|refine z_I ?_)
    refine hJ _ _ ⟨i + 1, by omega, by simp, c', d', O ++ [obD (2 * i + 1) g1 V, obE (2 * i + 1 + 1) g2 R], hc2', hd2', M9.sub fun o ho => ?_, fun x hx => ?_, fun j hj => ?_⟩ (by simp [intOf]; omega)
    · rw [← hT]
      simp only [List.mem_append, List.mem_cons, List.not_mem_nil, or_false] at ho ⊢
      rcases ho with h | h | h | h | h <;> simp [h]
    · simp only [List.mem_append, List.mem_cons, List.not_mem_nil, or_false] at hx
      rcases hx with hx | rfl | rfl
      · have := hO x hx; omega
      · show 2 * i + 1 ≤ 2 * (i + 1); omega
      · show 2 * i + 1 + 1 ≤ 2 * (i + 1); omega
    · rcases Nat.lt_or_ge j i with hji | hji
      · obtain ⟨g, g', V', R', q1, q2, q3, q4, q5⟩ := hdone j hji
        exact ⟨g, g', V', R', List.mem_append.2 (.inl q1), List.mem_append.2 (.inl q2), (hcj j hji).trans q3, (hdj j hji).trans q4, q5⟩
      · have : j = i := by omega
        subst this
        exact ⟨g1, g2, V, R, by simp, by simp, hci, hdi, hs.mono (by omega)⟩
  have hk' : k2 < la.length := by omega
  have hid := okA.id _ (List.getElem_mem hk')
  have hfl := okA.lt _ (List.getElem_mem hk')
  obtain ⟨a, Af, cf, rfl, q0, q1, q2, q3, hrd⟩ := acB_at hv2 k2 hk'
  have k0 : ∀ w', Below w4.heap.size w4 w' → w'.cell? ((a.add (k2 * 5)).add 0) = some (.int .i64 la[k2].kind) := RdKeep q0
  have k1 : ∀ w', Below w4.heap.size w4 w' → w'.cell? ((a.add (k2 * 5)).add 1) = some (.int .i64 la[k2].id) := RdKeep q1
  have kf : ∀ w', Below w4.heap.size w4 w' → w'.cell? ((a.add (k2 * 5)).add 2) = some (.slice Af la[k2].fs.length cf) := RdKeep q2
  have kr : ∀ w', Below w4.heap.size w4 w' → ∀ j u, (rgF la[k2].r)[j]? = some u → w'.cell? (((a.add (k2 * 5)).add 3).add j) = some u := fun w' h => keepC (addAdd q3) w' h
  have kS1 : ∀ (L : List Ob) y, MemL w4 y L → y.cell? ((a.add (k2 * 5)).add 1) = some (.int .i64 la[k2].id) := fun L y h => k1 y h.bel
  have kSf : ∀ (L : List Ob) y, MemL w4 y L → y.cell? ((a.add (k2 * 5)).add 2) = some (.slice Af la[k2].fs.length cf) := fun L y h => kf y h.bel
  have kSr : ∀ (L : List Ob) y, MemL w4 y L → ∀ j u, (rgF la[k2].r)[j]? = some u → y.cell? (((a.add (k2 * 5)).add 3).add j) = some u := fun L y h => kr y h.bel
  have kp : ∀ (V R : BdV) y, MemL w4 y (obD (2 * i + 1) g1 V :: obE (2 * i + 1 + 1) g2 R :: T) → y.cell? ⟨p, i, none⟩ = some (pt g1) := fun V R y h => ((h.arr (hu := 7) (g := p) (t := 59) (cs := c') (by simp only [List.mem_cons]; exact .inr (.inr mp))).cell i).trans hci
  have kq : ∀ (V R : BdV) y, MemL w4 y (obD (2 * i + 1) g1 V :: obE (2 * i + 1 + 1) g2 R :: T) → y.cell? ⟨q, i, none⟩ = some (pt g2) := fun V R y h => ((h.arr (hu := 8) (g := q) (t := 60) (cs := d') (by simp only [List.mem_cons]; exact .inr (.inr mq))).cell i).trans hdi
  (repeat with_reducible first|refine z_a ?_|refine z_b ?_|refine z_c ?_|refine z_d ?_|refine z_e ?_|refine z_f ?_|refine z_g ?_|refine z_h ?_|refine z_i ?_|refine z_j ?_|refine z_k ?_|refine z_l ?_|refine z_m (by omega) ?_|refine z_n (by omega) ?_|refine z_o (by omega) ?_|refine z_p (by omega) ?_|refine z_q (by omega) ?_|refine z_r (by omega) ?_|refine z_s (by omega) ?_|refine z_t (by omega) ?_|refine z_u (by omega) ?_|refine z_v (by omega) ?_|refine z_w (by omega) ?_|refine z_x (by omega) ?_|refine z_y (by omega) ?_|refine z_z (by omega) ?_|refine z_A ?_|refine z_B ?_|refine z_C ?_|refine z_D ?_|refine z_E ?_|refine z_F ?_|refine z_G ?_|refine z_H ?_|refine z_I ?_)
  refine JoinP.cut (fun xs w' => xs = [] ∧ ∃ (V' R' : BdV), StepS (k2 + 2) V' R' ∧ MemL w4 w' (obD (2 * i + 1) g1 V' :: obE (2 * i + 1 + 1) g2 R' :: T)) (fun J3 hJ3 => ?_) (fun xs w' hI => ?_)
  rotate_left
  · obtain ⟨rfl, V', R', h1, h2⟩ := hI
    (repeat with_reducible first|refine z_a ?_|refine z_b ?_|refine z_c ?_|refine z_d ?_|refine z_e ?_|refine z_f ?_|refine z_g ?_|refine z_h ?_|refine z_i ?_|refine z_j ?_|refine z_k ?_|refine z_l ?_|refine z_m (by omega) ?_|refine z_n (by omega) ?_|refine z_o (by omega) ?_|refine z_p (by omega) ?_|refine z_q (by omega) ?_|refine z_r (by omega) ?_|refine z_s (by omega) ?_|refine z_t (by omega) ?_|refine z_u (by omega) ?_|refine z_v (by omega) ?_|refine z_w (by omega) ?_|refine z_x (by omega) ?_|refine z_y (by omega) ?_|refine z_z (by omega) ?_|refine z_A ?_|refine z_B ?_|refine z_C ?_|refine z_D ?_|refine z_E ?_|refine z_F ?_|refine z_G ?_|refine z_H ?_|refine z_I ?_)
    exact hJ2 _ _ ⟨k2 + 1, V', R', by omega, by simp, h1, h2⟩ (by simp [intOf]; omega)
  have hdr : Below w9.heap.size w9 w9.drew := (Below.refl _ _).drew
  have M9' := M9.below hdr
  (repeat with_reducible first | refine ixN undAs szA k2 hk' ?_| refine fdA p0 (by decide) ?_| refine ld oneI (k0 _ M9.bel) ?_|refine z_a ?_|refine z_b ?_|refine z_c ?_|refine z_d ?_|refine z_e ?_|refine z_f ?_|refine z_g ?_|refine z_h ?_|refine z_i ?_|refine z_j ?_|refine z_k ?_|refine z_l ?_|refine z_m (by omega) ?_|refine z_n (by omega) ?_|refine z_o (by omega) ?_|refine z_p (by omega) ?_|refine z_q (by omega) ?_|refine z_r (by omega) ?_|refine z_s (by omega) ?_|refine z_t (by omega) ?_|refine z_u (by omega) ?_|refine z_v (by omega) ?_|refine z_w (by omega) ?_|refine z_x (by omega) ?_|refine z_y (by omega) ?_|refine z_z (by omega) ?_|refine z_A ?_|refine z_B ?_|refine z_C ?_|refine z_D ?_|refine z_E ?_|refine z_F ?_|refine z_G ?_|refine z_H ?_|refine z_I ?_)
  refine bi_eql_c (fun e1 => ?_) (fun e1 => ?_)
  · (repeat with_reducible first|refine z_a ?_|refine z_b ?_|refine z_c ?_|refine z_d ?_|refine z_e ?_|refine z_f ?_|refine z_g ?_|refine z_h ?_|refine z_i ?_|refine z_j ?_|refine z_k ?_|refine z_l ?_|refine z_m (by omega) ?_|refine z_n (by omega) ?_|refine z_o (by omega) ?_|refine z_p (by omega) ?_|refine z_q (by omega) ?_|refine z_r (by omega) ?_|refine z_s (by omega) ?_|refine z_t (by omega) ?_|refine z_u (by omega) ?_|refine z_v (by omega) ?_|refine z_w (by omega) ?_|refine z_x (by omega) ?_|refine z_y (by omega) ?_|refine z_z (by omega) ?_|refine z_A ?_|refine z_B ?_|refine z_C ?_|refine z_D ?_|refine z_E ?_|refine z_F ?_|refine z_G ?_|refine z_H ?_|refine z_I ?_)
    refine draw (fun y => MemL w4 y _) M9' ?_
    (repeat with_reducible first | refine yixB undA1 szPb i hi' ?_| refine yl1 onePb (kp V R) ?_| refine yixA undAs szA k2 hk' ?_| refine yfdA p2 (by decide) ?_| refine yl1 oneIs (kSf _) ?_|refine z_J ?_|refine z_a ?_|refine z_b ?_|refine z_c ?_|refine z_d ?_|refine z_e ?_|refine z_f ?_|refine z_g ?_|refine z_h ?_|refine z_i ?_|refine z_j ?_|refine z_k ?_|refine z_l ?_|refine z_K (by omega) ?_|refine z_L (by omega) ?_|refine z_M (by omega) ?_|refine z_N (by omega) ?_|refine z_O (by omega) ?_|refine z_P (by omega) ?_|refine z_Q (by omega) ?_|refine z_R (by omega) ?_|refine z_S (by omega) ?_|refine z_T (by omega) ?_|refine z_U (by omega) ?_|refine z_V (by omega) ?_|refine z_W (by omega) ?_|refine z_X (by omega) ?_|refine z_Y ?_|refine z_Z ?_|refine z_a1 ?_|refine z_b1 ?_|refine z_c1 ?_|refine z_d1 ?_|refine z_e1 ?_|refine z_f1 ?_|refine z_g1 ?_)
    refine (callDe (A := []) (fs := la[k2].fs) M9' (hdD hR) hs.toStepB (hrd.below M9'.bel) (by omega)).mono ?_
    rintro _ wa ⟨_, Ma⟩
    replace Ma : MemL w4 wa (obD (2 * i + 1) g1 (deV V la[k2].fs [allR]) :: obE (2 * i + 1 + 1) g2 R :: T) := Ma
    have Ma' := Ma.below ((Below.refl wa.heap.size wa).drew)
    (repeat with_reducible first|refine z_a ?_|refine z_b ?_|refine z_c ?_|refine z_d ?_|refine z_e ?_|refine z_f ?_|refine z_g ?_|refine z_h ?_|refine z_i ?_|refine z_j ?_|refine z_k ?_|refine z_l ?_|refine z_m (by omega) ?_|refine z_n (by omega) ?_|refine z_o (by omega) ?_|refine z_p (by omega) ?_|refine z_q (by omega) ?_|refine z_r (by omega) ?_|refine z_s (by omega) ?_|refine z_t (by omega) ?_|refine z_u (by omega) ?_|refine z_v (by omega) ?_|refine z_w (by omega) ?_|refine z_x (by omega) ?_|refine z_y (by omega) ?_|refine z_z (by omega) ?_|refine z_A ?_|refine z_B ?_|refine z_C ?_|refine z_D ?_|refine z_E ?_|refine z_F ?_|refine z_G ?_|refine z_H ?_|refine z_I ?_)
    refine draw (fun y => MemL w4 y _) Ma' ?_
    (repeat with_reducible first | refine yixB undA2 szPr i hi' ?_| refine yl1 onePr (kq _ R) ?_| refine yixA undAs szA k2 hk' ?_| refine yfdA p2 (by decide) ?_| refine yl1 oneIs (kSf _) ?_|refine z_J ?_|refine z_a ?_|refine z_b ?_|refine z_c ?_|refine z_d ?_|refine z_e ?_|refine z_f ?_|refine z_g ?_|refine z_h ?_|refine z_i ?_|refine z_j ?_|refine z_k ?_|refine z_l ?_|refine z_K (by omega) ?_|refine z_L (by omega) ?_|refine z_M (by omega) ?_|refine z_N (by omega) ?_|refine z_O (by omega) ?_|refine z_P (by omega) ?_|refine z_Q (by omega) ?_|refine z_R (by omega) ?_|refine z_S (by omega) ?_|refine z_T (by omega) ?_|refine z_U (by omega) ?_|refine z_V (by omega) ?_|refine z_W (by omega) ?_|refine z_X (by omega) ?_|refine z_Y ?_|refine z_Z ?_|refine z_a1 ?_|refine z_b1 ?_|refine z_c1 ?_|refine z_d1 ?_|refine z_e1 ?_|refine z_f1 ?_|refine z_g1 ?_)
    refine (refDe (A := [obD (2 * i + 1) g1 (deV V la[k2].fs [allR])]) (fs := la[k2].fs) Ma' (hdE hR) hs.toStepB (hrd.below Ma'.bel) (by omega)).mono ?_
    rintro _ wb' ⟨_, Mb⟩
    (repeat with_reducible first|refine z_a ?_|refine z_b ?_|refine z_c ?_|refine z_d ?_|refine z_e ?_|refine z_f ?_|refine z_g ?_|refine z_h ?_|refine z_i ?_|refine z_j ?_|refine z_k ?_|refine z_l ?_|refine z_m (by omega) ?_|refine z_n (by omega) ?_|refine z_o (by omega) ?_|refine z_p (by omega) ?_|refine z_q (by omega) ?_|refine z_r (by omega) ?_|refine z_s (by omega) ?_|refine z_t (by omega) ?_|refine z_u (by omega) ?_|refine z_v (by omega) ?_|refine z_w (by omega) ?_|refine z_x (by omega) ?_|refine z_y (by omega) ?_|refine z_z (by omega) ?_|refine z_A ?_|refine z_B ?_|refine z_C ?_|refine z_D ?_|refine z_E ?_|refine z_F ?_|refine z_G ?_|refine z_H ?_|refine z_I ?_)
    exact hJ3 _ _ ⟨rfl, _, _, (hs.de (by omega) la[k2].fs).mono (by omega), Mb⟩
  (repeat with_reducible first|refine z_a ?_|refine z_b ?_|refine z_c ?_|refine z_d ?_|refine z_e ?_|refine z_f ?_|refine z_g ?_|refine z_h ?_|refine z_i ?_|refine z_j ?_|refine z_k ?_|refine z_l ?_|refine z_m (by omega) ?_|refine z_n (by omega) ?_|refine z_o (by omega) ?_|refine z_p (by omega) ?_|refine z_q (by omega) ?_|refine z_r (by omega) ?_|refine z_s (by omega) ?_|refine z_t (by omega) ?_|refine z_u (by omega) ?_|refine z_v (by omega) ?_|refine z_w (by omega) ?_|refine z_x (by omega) ?_|refine z_y (by omega) ?_|refine z_z (by omega) ?_|refine z_A ?_|refine z_B ?_|refine z_C ?_|refine z_D ?_|refine z_E ?_|refine z_F ?_|refine z_G ?_|refine z_H ?_|refine z_I ?_)
  refine bi_eql_c (fun e2 => ?_) (fun e2 => ?_)
  · (repeat with_reducible first|refine z_a ?_|refine z_b ?_|refine z_c ?_|refine z_d ?_|refine z_e ?_|refine z_f ?_|refine z_g ?_|refine z_h ?_|refine z_i ?_|refine z_j ?_|refine z_k ?_|refine z_l ?_|refine z_m (by omega) ?_|refine z_n (by omega) ?_|refine z_o (by omega) ?_|refine z_p (by omega) ?_|refine z_q (by omega) ?_|refine z_r (by omega) ?_|refine z_s (by omega) ?_|refine z_t (by omega) ?_|refine z_u (by omega) ?_|refine z_v (by omega) ?_|refine z_w (by omega) ?_|refine z_x (by omega) ?_|refine z_y (by omega) ?_|refine z_z (by omega) ?_|refine z_A ?_|refine z_B ?_|refine z_C ?_|refine z_D ?_|refine z_E ?_|refine z_F ?_|refine z_G ?_|refine z_H ?_|refine z_I ?_)
    refine draw (fun y => MemL w4 y _) M9' ?_
    (repeat with_reducible first | refine yixB undA1 szPb i hi' ?_| refine yl1 onePb (kp V R) ?_| refine yixA undAs szA k2 hk' ?_| refine yfdA p1 (by decide) ?_| refine yl1 oneI (kS1 _) ?_|refine z_J ?_|refine z_a ?_|refine z_b ?_|refine z_c ?_|refine z_d ?_|refine z_e ?_|refine z_f ?_|refine z_g ?_|refine z_h ?_|refine z_i ?_|refine z_j ?_|refine z_k ?_|refine z_l ?_|refine z_K (by omega) ?_|refine z_L (by omega) ?_|refine z_M (by omega) ?_|refine z_N (by omega) ?_|refine z_O (by omega) ?_|refine z_P (by omega) ?_|refine z_Q (by omega) ?_|refine z_R (by omega) ?_|refine z_S (by omega) ?_|refine z_T (by omega) ?_|refine z_U (by omega) ?_|refine z_V (by omega) ?_|refine z_W (by omega) ?_|refine z_X (by omega) ?_|refine z_Y ?_|refine z_Z ?_|refine z_a1 ?_|refine z_b1 ?_|refine z_c1 ?_|refine z_d1 ?_|refine z_e1 ?_|refine z_f1 ?_|refine z_g1 ?_)
    refine (callDr (A := []) la[k2].id hid M9' (hdD hR) hs.toStepB).mono ?_
    rintro _ wa ⟨_, Ma⟩
    replace Ma : MemL w4 wa (obD (2 * i + 1) g1 (drV V la[k2].id gone0) :: obE (2 * i + 1 + 1) g2 R :: T) := Ma
    have Ma' := Ma.below ((Below.refl wa.heap.size wa).drew)
    (repeat with_reducible first|refine z_a ?_|refine z_b ?_|refine z_c ?_|refine z_d ?_|refine z_e ?_|refine z_f ?_|refine z_g ?_|refine z_h ?_|refine z_i ?_|refine z_j ?_|refine z_k ?_|refine z_l ?_|refine z_m (by omega) ?_|refine z_n (by omega) ?_|refine z_o (by omega) ?_|refine z_p (by omega) ?_|refine z_q (by omega) ?_|refine z_r (by omega) ?_|refine z_s (by omega) ?_|refine z_t (by omega) ?_|refine z_u (by omega) ?_|refine z_v (by omega) ?_|refine z_w (by omega) ?_|refine z_x (by omega) ?_|refine z_y (by omega) ?_|refine z_z (by omega) ?_|refine z_A ?_|refine z_B ?_|refine z_C ?_|refine z_D ?_|refine z_E ?_|refine z_F ?_|refine z_G ?_|refine z_H ?_|refine z_I ?_)
    refine draw (fun y => MemL w4 y _) Ma' ?_
    (repeat with_reducible first | refine yixB undA2 szPr i hi' ?_| refine yl1 onePr (kq _ R) ?_| refine yixA undAs szA k2 hk' ?_| refine yfdA p1 (by decide) ?_| refine yl1 oneI (kS1 _) ?_|refine z_J ?_|refine z_a ?_|refine z_b ?_|refine z_c ?_|refine z_d ?_|refine z_e ?_|refine z_f ?_|refine z_g ?_|refine z_h ?_|refine z_i ?_|refine z_j ?_|refine z_k ?_|refine z_l ?_|refine z_K (by omega) ?_|refine z_L (by omega) ?_|refine z_M (by omega) ?_|refine z_N (by omega) ?_|refine z_O (by omega) ?_|refine z_P (by omega) ?_|refine z_Q (by omega) ?_|refine z_R (by omega) ?_|refine z_S (by omega) ?_|refine z_T (by omega) ?_|refine z_U (by omega) ?_|refine z_V (by omega) ?_|refine z_W (by omega) ?_|refine z_X (by omega) ?_|refine z_Y ?_|refine z_Z ?_|refine z_a1 ?_|refine z_b1 ?_|refine z_c1 ?_|refine z_d1 ?_|refine z_e1 ?_|refine z_f1 ?_|refine z_g1 ?_)
    refine (refDr (A := [obD (2 * i + 1) g1 (drV V la[k2].id gone0)]) la[k2].id hid Ma' (hdE hR) hs.toStepB).mono ?_
    rintro _ wb' ⟨_, Mb⟩
    (repeat with_reducible first|refine z_a ?_|refine z_b ?_|refine z_c ?_|refine z_d ?_|refine z_e ?_|refine z_f ?_|refine z_g ?_|refine z_h ?_|refine z_i ?_|refine z_j ?_|refine z_k ?_|refine z_l ?_|refine z_m (by omega) ?_|refine z_n (by omega) ?_|refine z_o (by omega) ?_|refine z_p (by omega) ?_|refine z_q (by omega) ?_|refine z_r (by omega) ?_|refine z_s (by omega) ?_|refine z_t (by omega) ?_|refine z_u (by omega) ?_|refine z_v (by omega) ?_|refine z_w (by omega) ?_|refine z_x (by omega) ?_|refine z_y (by omega) ?_|refine z_z (by omega) ?_|refine z_A ?_|refine z_B ?_|refine z_C ?_|refine z_D ?_|refine z_E ?_|refine z_F ?_|refine z_G ?_|refine z_H ?_|refine z_I ?_)
    exact hJ3 _ _ ⟨rfl, _, _, (hs.dr la[k2].id).mono (by omega), Mb⟩
  (repeat with_reducible first|refine z_a ?_|refine z_b ?_|refine z_c ?_|refine z_d ?_|refine z_e ?_|refine z_f ?_|refine z_g ?_|refine z_h ?_|refine z_i ?_|refine z_j ?_|refine z_k ?_|refine z_l ?_|refine z_m (by omega) ?_|refine z_n (by omega) ?_|refine z_o (by omega) ?_|refine z_p (by omega) ?_|refine z_q (by omega) ?_|refine z_r (by omega) ?_|refine z_s (by omega) ?_|refine z_t (by omega) ?_|refine z_u (by omega) ?_|refine z_v (by omega) ?_|refine z_w (by omega) ?_|refine z_x (by omega) ?_|refine z_y (by omega) ?_|refine z_z (by omega) ?_|refine z_A ?_|refine z_B ?_|refine z_C ?_|refine z_D ?_|refine z_E ?_|refine z_F ?_|refine z_G ?_|refine z_H ?_|refine z_I ?_)
  refine bi_eql_c (fun e3 => ?_) (fun e3 => ?_)
  · (repeat with_reducible first|refine z_a ?_|refine z_b ?_|refine z_c ?_|refine z_d ?_|refine z_e ?_|refine z_f ?_|refine z_g ?_|refine z_h ?_|refine z_i ?_|refine z_j ?_|refine z_k ?_|refine z_l ?_|refine z_m (by omega) ?_|refine z_n (by omega) ?_|refine z_o (by omega) ?_|refine z_p (by omega) ?_|refine z_q (by omega) ?_|refine z_r (by omega) ?_|refine z_s (by omega) ?_|refine z_t (by omega) ?_|refine z_u (by omega) ?_|refine z_v (by omega) ?_|refine z_w (by omega) ?_|refine z_x (by omega) ?_|refine z_y (by omega) ?_|refine z_z (by omega) ?_|refine z_A ?_|refine z_B ?_|refine z_C ?_|refine z_D ?_|refine z_E ?_|refine z_F ?_|refine z_G ?_|refine z_H ?_|refine z_I ?_)
    refine draw (fun y => MemL w4 y _) M9' ?_
    (repeat with_reducible first | refine yixB undA1 szPb i hi' ?_| refine yl1 onePb (kp V R) ?_| refine yixA undAs szA k2 hk' ?_| refine yfdA p1 (by decide) ?_| refine yl1 oneI (kS1 _) ?_| refine yfdA p3 (by decide) ?_|refine z_J ?_|refine z_a ?_|refine z_b ?_|refine z_c ?_|refine z_d ?_|refine z_e ?_|refine z_f ?_|refine z_g ?_|refine z_h ?_|refine z_i ?_|refine z_j ?_|refine z_k ?_|refine z_l ?_|refine z_K (by omega) ?_|refine z_L (by omega) ?_|refine z_M (by omega) ?_|refine z_N (by omega) ?_|refine z_O (by omega) ?_|refine z_P (by omega) ?_|refine z_Q (by omega) ?_|refine z_R (by omega) ?_|refine z_S (by omega) ?_|refine z_T (by omega) ?_|refine z_U (by omega) ?_|refine z_V (by omega) ?_|refine z_W (by omega) ?_|refine z_X (by omega) ?_|refine z_Y ?_|refine z_Z ?_|refine z_a1 ?_|refine z_b1 ?_|refine z_c1 ?_|refine z_d1 ?_|refine z_e1 ?_|refine z_f1 ?_|refine z_g1 ?_)
    refine yldR (us := rgF la[k2].r) agg23 (kSr _) (by rw [sz23]; rfl) ?_
    refine (callRe (A := []) la[k2].id la[k2].r hid M9' (hdD hR) hs.toStepB (by omega)).mono ?_
    rintro _ wa ⟨_, Ma⟩
    replace Ma : MemL w4 wa (obD (2 * i + 1) g1 (reV V la[k2].id (rep0 la[k2].r)) :: obE (2 * i + 1 + 1) g2 R :: T) := Ma
    have Ma' := Ma.below ((Below.refl wa.heap.size wa).drew)
    (repeat with_reducible first|refine z_a ?_|refine z_b ?_|refine z_c ?_|refine z_d ?_|refine z_e ?_|refine z_f ?_|refine z_g ?_|refine z_h ?_|refine z_i ?_|refine z_j ?_|refine z_k ?_|refine z_l ?_|refine z_m (by omega) ?_|refine z_n (by omega) ?_|refine z_o (by omega) ?_|refine z_p (by omega) ?_|refine z_q (by omega) ?_|refine z_r (by omega) ?_|refine z_s (by omega) ?_|refine z_t (by omega) ?_|refine z_u (by omega) ?_|refine z_v (by omega) ?_|refine z_w (by omega) ?_|refine z_x (by omega) ?_|refine z_y (by omega) ?_|refine z_z (by omega) ?_|refine z_A ?_|refine z_B ?_|refine z_C ?_|refine z_D ?_|refine z_E ?_|refine z_F ?_|refine z_G ?_|refine z_H ?_|refine z_I ?_)
    refine draw (fun y => MemL w4 y _) Ma' ?_
    (repeat with_reducible first | refine yixB undA2 szPr i hi' ?_| refine yl1 onePr (kq _ R) ?_| refine yixA undAs szA k2 hk' ?_| refine yfdA p1 (by decide) ?_| refine yl1 oneI (kS1 _) ?_| refine yfdA p3 (by decide) ?_|refine z_J ?_|refine z_a ?_|refine z_b ?_|refine z_c ?_|refine z_d ?_|refine z_e ?_|refine z_f ?_|refine z_g ?_|refine z_h ?_|refine z_i ?_|refine z_j ?_|refine z_k ?_|refine z_l ?_|refine z_K (by omega) ?_|refine z_L (by omega) ?_|refine z_M (by omega) ?_|refine z_N (by omega) ?_|refine z_O (by omega) ?_|refine z_P (by omega) ?_|refine z_Q (by omega) ?_|refine z_R (by omega) ?_|refine z_S (by omega) ?_|refine z_T (by omega) ?_|refine z_U (by omega) ?_|refine z_V (by omega) ?_|refine z_W (by omega) ?_|refine z_X (by omega) ?_|refine z_Y ?_|refine z_Z ?_|refine z_a1 ?_|refine z_b1 ?_|refine z_c1 ?_|refine z_d1 ?_|refine z_e1 ?_|refine z_f1 ?_|refine z_g1 ?_)
    refine yldR (us := rgF la[k2].r) agg23 (kSr _) (by rw [sz23]; rfl) ?_
    refine (refRe (A := [obD (2 * i + 1) g1 (reV V la[k2].id (rep0 la[k2].r))]) la[k2].id la[k2].r hid Ma' (hdE hR) hs.toStepB (by omega)).mono ?_
    rintro _ wb' ⟨_, Mb⟩
    (repeat with_reducible first|refine z_a ?_|refine z_b ?_|refine z_c ?_|refine z_d ?_|refine z_e ?_|refine z_f ?_|refine z_g ?_|refine z_h ?_|refine z_i ?_|refine z_j ?_|refine z_k ?_|refine z_l ?_|refine z_m (by omega) ?_|refine z_n (by omega) ?_|refine z_o (by omega) ?_|refine z_p (by omega) ?_|refine z_q (by omega) ?_|refine z_r (by omega) ?_|refine z_s (by omega) ?_|refine z_t (by omega) ?_|refine z_u (by omega) ?_|refine z_v (by omega) ?_|refine z_w (by omega) ?_|refine z_x (by omega) ?_|refine z_y (by omega) ?_|refine z_z (by omega) ?_|refine z_A ?_|refine z_B ?_|refine z_C ?_|refine z_D ?_|refine z_E ?_|refine z_F ?_|refine z_G ?_|refine z_H ?_|refine z_I ?_)
    exact hJ3 _ _ ⟨rfl, _, _, hs.re la[k2].id la[k2].r hfl.2, Mb⟩
  · (repeat with_reducible first|refine z_a ?_|refine z_b ?_|refine z_c ?_|refine z_d ?_|refine z_e ?_|refine z_f ?_|refine z_g ?_|refine z_h ?_|refine z_i ?_|refine z_j ?_|refine z_k ?_|refine z_l ?_|refine z_m (by omega) ?_|refine z_n (by omega) ?_|refine z_o (by omega) ?_|refine z_p (by omega) ?_|refine z_q (by omega) ?_|refine z_r (by omega) ?_|refine z_s (by omega) ?_|refine z_t (by omega) ?_|refine z_u (by omega) ?_|refine z_v (by omega) ?_|refine z_w (by omega) ?_|refine z_x (by omega) ?_|refine z_y (by omega) ?_|refine z_z (by omega) ?_|refine z_A ?_|refine z_B ?_|refine z_C ?_|refine z_D ?_|refine z_E ?_|refine z_F ?_|refine z_G ?_|refine z_H ?_|refine z_I ?_)
    exact hJ3 _ _ ⟨rfl, V, R, hs.mono (by omega), M9⟩
theorem BoardLoads_law (v u : Value) (l m : List ActBT) (s : ByteArray) (w : World) (h0 : ActsB w [v] l) (h1 : ActsB w [u] m) :
    CallP Try.prog 6 #[v, u, .string s] (fun r w' => r = .bool true ∧ Below w.heap.size w w') w := by
  rw [tS_of]
  exact boardLoads v u _ _ _ w (actsB_of h0).1 (actsB_of h0).2 (actsB_of h1).1 (actsB_of h1).2
end Go.Proofs.Ytcfncjejpjjhdaa.E
