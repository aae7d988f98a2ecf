import Derived.Test.YtadbpelpbaikiaaM7
namespace Go.Proofs.Ytadbpelpbaikiaa.E
open Go Go.RowKit
set_option linter.unusedSimpArgs false
set_option linter.unusedVariables false

theorem New_spec (w : World) (room : Int) (hr : -9223372036854775808 ≤ room ∧ room ≤ 9223372036854775807) :
    CallP Try.prog 8 #[.int .i64 room] (fun r w' => (if room < 0 ∨ 4194304 < room then r = .tuple #[.pointer none, .int .i64 1]
      else ∃ g c, r = .tuple #[.pointer (some ⟨g, 0, none⟩), .int .i64 0] ∧ (∀ k, k < w.heap.size → c k = 0) ∧ DiskC c w' g ⟨room.toNat, false, [], [], []⟩) ∧ Below w.heap.size w w') w := by
  refine ⟨S8.calls _ _ _ ?_⟩
  unfold S8
  refine bd (cells := #[.int .i64 0, .bool false, .slice none 0 0, .slice none 0 0, .slice none 0 0]) (by kernel_rfl) ?_
  refine bx ?_
  have hbl : Blk (w.alloc (.cells (Value.agg #[.int .i64 0, .bool false, .slice none 0 0, .slice none 0 0, .slice none 0 0]).cells 56)) w.heap.size 56 #[.int .i64 0, .bool false, .slice none 0 0, .slice none 0 0, .slice none 0 0] := Blk.new w 56 _
  have ha : Below w.heap.size w (w.alloc (.cells (Value.agg #[.int .i64 0, .bool false, .slice none 0 0, .slice none 0 0, .slice none 0 0]).cells 56)) := (Below.refl _ _).alloc (Nat.le_refl _) _
  generalize w.alloc (.cells (Value.agg #[.int .i64 0, .bool false, .slice none 0 0, .slice none 0 0, .slice none 0 0]).cells 56) = w1 at *
  have hD : DiskC (fun k => if k = w.heap.size then 1 else 0) w1 w.heap.size ⟨0, false, [], [], []⟩ :=
    ⟨_, _, _, [], ⟨by simp, hbl, (Own.nil 5 w1).rd, .inl rfl, (Own.nil 5 w1).c, InC.nil _ _ _ _, Own.nil 22 w1, InC.nil _ _ _ _, rfl, fun i h1 => by simp at h1⟩⟩
  refine (Resize_spec _ w1 _ _ room hD ⟨by simp [Dk.used, costL], by simp, by simp⟩).mono ?_
  rintro _ w2 ⟨rfl, c', hc', hD2, hT⟩
  have hb2 : Below w.heap.size w w2 := ha.trans (hT.below ha.size fun k hk hF => by rw [D] at hF; exact hF (by rw [if_neg (by omega)]))
  have eu : (Dk.mk 0 false [] [] []).used = 0 := by simp [Dk.used, costL]
  by_cases hroom : room < 0 ∨ 4194304 < room
  · have e1 : resizeAns ⟨0, false, [], [], []⟩ room = 1 := by rw [resizeAns, if_pos hroom]
    rw [e1]
    (repeat with_reducible first|refine z_b ?_|refine z_s (by omega) ?_)
    refine ⟨?_, hb2⟩
    rw [if_pos hroom]
    rfl
  · have e1 : resizeAns ⟨0, false, [], [], []⟩ room = 0 := by
      rw [resizeAns, if_neg hroom, eu, if_neg (by omega)]
    rw [e1] at hD2 ⊢
    rw [if_pos rfl] at hD2
    (repeat with_reducible first|refine z_c ?_|refine z_t (by omega) ?_)
    have h1 := ha.size
    have hlt : ∀ k, k < w.heap.size → k < w1.heap.size := fun k hk => Nat.lt_of_lt_of_le hk h1
    refine ⟨?_, hb2⟩
    rw [if_neg hroom]
    exact ⟨_, c', rfl, fun k hk => by rw [hc' k (hlt k hk)]; simp only; rw [if_neg (by omega)], hD2⟩

section
variable {c c1 : Nat → Nat} {w w1 w2 : World} {g : Nat} {d : Dk}
theorem Left.of (h : DiskC c w g d) (hb : Below w.heap.size w w1) : Left c w g d w1 := ⟨c, fun _ _ => rfl, h.below hb, Turns.of_below hb⟩
theorem Left.then (hb : Below w.heap.size w w1) (hc : ∀ k, k < w.heap.size → c1 k = c k) (h : Left c1 w1 g d w2) : Left c w g d w2 := by
  obtain ⟨c2, h1, h2, h3⟩ := h
  exact ⟨c2, fun k hk => (h1 k (Nat.lt_of_lt_of_le hk hb.size)).trans (hc k hk), h2, (Turns.of_below hb).step hc h3⟩
end
/-- What Append answers. -/
def appendAns (d : Dk) (p : List UInt8) : Nat := if d.on = false then 15 else if 65536 < p.length then 4 else if d.room < d.used + (8 + p.length) then 6 else 0
def Dk.appended (d : Dk) (p : List UInt8) : Dk := { d with waits := d.waits ++ [Frame.wrap p] }
theorem Append_spec (c : Nat → Nat) (w : World) (g : Nat) (d : Dk) (v : Value) (p : List UInt8) (hD : DiskC c w g d) (hs : d.small) (hv : RdB w v p) :
    CallP Try.prog 32 #[.pointer (some ⟨g, 0, none⟩), v] (fun r w' => r = .int .i64 (appendAns d p) ∧ Left c w g (if appendAns d p = 0 then d.appended p else d) w') w := by
  have hD0 := hD
  obtain ⟨s, l, q, xs, hA⟩ := hD
  have c1 : w.cell? ⟨g, 1, none⟩ = some (.bool d.on) := hA.blk.cell 1
  refine ⟨S32.calls _ _ _ _ ?_⟩
  unfold S32
  rcases Bool.eq_false_or_eq_true d.on with hon | hon
  all_goals rw [hon] at c1
  · (repeat with_reducible first|refine fd f1 (by decide) ?_|refine ld one4 c1 ?_|refine z_a ?_|refine z_c ?_|refine z_E ?_)
    refine (Wrap_spec v p w hv).mono ?_
    rintro _ w1 ⟨x, rfl, hox, hfx, hb1⟩
    unfold Frame.wrapAns at hox ⊢
    rcases Nat.lt_or_ge 65536 p.length with hp | hp
    · have e : appendAns d p = 4 := by rw [appendAns, if_neg (by rw [hon]; simp), if_pos hp]
      rw [if_neg (by omega), e]
      (repeat with_reducible first|refine z_b ?_|refine z_s (by omega) ?_|refine z_A ?_|refine z_B ?_)
      exact ⟨rfl, Left.of hD0 hb1⟩
    rw [if_pos hp] at hox ⊢
    simp only at hox
    have hwl : ((Frame.wrap p).map u8).length = 8 + p.length := by rw [List.length_map, Frame.wrap_length]
    have hDc : DiskC (col c w.heap.size 4) w1 g d := (hD0.re (col_lt c w.heap.size 4)).below hb1
    have hic : InC (col c w.heap.size 4) 4 x := InC.fresh hfx
    obtain ⟨Ax, cx, rfl⟩ := hox.slice
    rw [hwl] at hox hic ⊢
    obtain ⟨s, l, q, xs, hA1⟩ := hDc
    have c0 : ∀ w', Below w1.heap.size w1 w' → w'.cell? ⟨g, 0, none⟩ = some (.int .i64 d.room) := fun w' hb => (hA1.blk.below' hb).cell 0
    have hdr : Below w1.heap.size w1 w1.drew := (Below.refl _ _).drew
    (repeat with_reducible first|refine z_c ?_|refine z_t (by omega) ?_|refine z_A ?_|refine z_B ?_)
    refine draw (Below w1.heap.size w1) hdr ?_
    (repeat with_reducible first|refine yln und23 ?_|refine yfd f0 (by decide) ?_|refine yl1 one3 c0 ?_|refine z_W ?_)
    refine act ?_
    refine (Used_spec _ _ g d ⟨s, l, q, xs, hA1.below hdr⟩ hs).mono ?_
    rintro _ w2 ⟨rfl, hb2⟩
    have hb12 := below_then hdr hb2
    refine ⟨_, hb12, fun _ h => h, ?_⟩
    obtain ⟨hs1, hs2, hs3⟩ := hs
    (repeat with_reducible first|refine z_Z (by omega) ?_)
    (first | refine yi_lss_c (fun h => ?_) (fun h => ?_) | refine yi_eql_c (fun h => ?_) (fun h => ?_) | refine yi_neq_c (fun h => ?_) (fun h => ?_) | refine yi_gtr_c (fun h => ?_) (fun h => ?_) | refine yi_leq_c (fun h => ?_) (fun h => ?_) | refine yi_geq_c (fun h => ?_) (fun h => ?_) | refine yi_seql_c (fun h => ?_) (fun h => ?_) | refine yi_sneq_c (fun h => ?_) (fun h => ?_))
    · have e : appendAns d p = 6 := by rw [appendAns, if_neg (by rw [hon]; simp), if_neg (by omega), if_pos (by omega)]
      (repeat with_reducible first|refine z_b ?_)
      rw [e]
      exact ⟨rfl, Left.of hD0 (below_then hb1 hb12)⟩
    have e : appendAns d p = 0 := by rw [appendAns, if_neg (by rw [hon]; simp), if_neg (by omega), if_neg (by omega)]
    rw [e, if_pos rfl]
    have hA2 := hA1.below hb12
    have hox2 := hox.below hb12
    have c4 : w2.cell? ⟨g, 4, none⟩ = some q := hA2.blk.cell 4
    have hb2' := below_then hb1 hb12
    (repeat with_reducible first|refine fd f4 (by decide) ?_|refine ld one45 c4 ?_|refine z_a ?_|refine z_c ?_)
    refine lift (v := .slice (some ⟨w2.heap.size, 0, none⟩) 1 1) (w' := w2.alloc (.cells #[.slice Ax (8 + p.length) cx] 22)) (by kernel_rfl) ?_
    have ha := (Below.refl w2.heap.size w2).alloc (Nat.le_refl _) (.cells #[.slice Ax (8 + p.length) cx] 22)
    have hrs : Rd (w2.alloc (.cells #[.slice Ax (8 + p.length) cx] 22)) (.slice (some ⟨w2.heap.size, 0, none⟩) 1 1) [.slice Ax (8 + p.length) cx] := (Own.new w2 22 [.slice Ax (8 + p.length) cx] (by simp)).rd
    have hA3 := hA2.below ha
    have hox3 := hox2.below ha
    have hb3 := below_then hb2' ha
    generalize w2.alloc (.cells #[.slice Ax (8 + p.length) cx] 22) = w3 at *
    refine apT und45 inf23 (by rfl) (by decide) hA3.q1 hrs (by simp [Value.oneCell']) (by have := hA3.len; simp only [List.length_cons, List.length_nil]; omega) ?_
    intro v4 w4 ho4 hbl4 hT4
    have hs3 := hb3.size
    have hs13 := hb1.size
    -- the colours behind
    have hcc : ∀ k, k < w3.heap.size → col (col c w.heap.size 4) w3.heap.size 3 k = col c w.heap.size 4 k := col_lt _ _ _
    have hA4 := hA3.re hcc
    have hi4 : InC (col (col c w.heap.size 4) w3.heap.size 3) 3 v4 := fun b hb => by
      rcases hbl4 with h | h
      · rw [h] at hb; exact hA4.q2 b hb
      · rw [h] at hb; cases hb; exact col_ge _ _ _ (Nat.le_refl _)
    have hix : InC (col (col c w.heap.size 4) w3.heap.size 3) 4 (.slice Ax (8 + p.length) cx) := hic.re (fun b hb => hox3.ownLt hb) hcc
    generalize hcol : col (col c w.heap.size 4) w3.heap.size 3 = c4' at *
    have hq : ∀ {x : Nat} {v : Value}, x ≠ 3 → InC c4' x v → ∀ b, v.ownBlock = some b → ¬ q.ownBlock = some b := fun hx hv b hb hb' => hx ((hv b hb).symm.trans (hA4.q2 b hb'))
    have hT4' : Turns (D c) w w4 := (Turns.of_below hb3).trans (hT4.mono fun k hk hq' => by
      have h3 := hA4.q2 k hq'
      rcases Nat.lt_or_ge k w.heap.size with h | h
      · refine .inl ?_
        rw [D]
        rw [← hcol, col_lt _ _ _ k hk, col_lt _ _ _ k h] at h3
        omega
      · exact .inr h)
    have hblk4 := hA4.blk.turns hT4 (fun he => by have := hA4.q2 g he; rw [hA4.hue] at this; omega)
    (repeat with_reducible first|refine fd f4 (by decide) ?_|refine z_a ?_)
    obtain ⟨A4, cap4, rfl⟩ := ho4.slice
    refine st sz45 rfl (by rw [hblk4.cell 4]; rfl) (hblk4.frozen 4) ?_
    have hT5 := setT w4 g 4 (Value.slice A4 (xs ++ [Value.slice Ax (8 + p.length) cx]).length cap4)
    have hg4 := hA4.hue
    have go : ∀ {x : Nat} {v : Value}, x ≠ 1 → InC c4' x v → ∀ b, v.ownBlock = some b → ¬ b = g := fun hx hv b hb he => hv.ne hg4 hx (by rw [hb, he])
    refine ⟨rfl, c4', fun k hk => ?_, ⟨s, l, _, xs ++ [Value.slice Ax (8 + p.length) cx], hg4, hblk4.set_ 4 _,
      (hA4.s1.turns hT4 (hA4.s2.imp_right (hq (by omega)))).turns hT5 (hA4.s2.imp_right (go (by omega))), hA4.s2,
      (hA4.l1.turns hT4 (hq (by omega) hA4.l2)).turns hT5 (go (by omega) hA4.l2), hA4.l2,
      ho4.turns hT5 (go (by omega) hi4), hi4, by simp [Dk.appended, hA4.len], ?_⟩, hT4'.setCell (.inl ?_) _⟩
    · rw [← hcol, col_lt _ _ _ k (by omega), col_lt _ _ _ k hk]
    · intro i h1 h2
      simp only [Dk.appended] at h2 ⊢
      rcases Nat.lt_or_ge i xs.length with hi | hi
      · have hi' : i < d.waits.length := by rw [← hA4.len]; exact hi
        rw [List.getElem_append_left hi, List.getElem_append_left hi']
        obtain ⟨e1, e2⟩ := hA4.el i hi hi'
        exact ⟨(e1.turns hT4 (e2.imp_right (hq (by omega)))).turns hT5 (e2.imp_right (go (by omega))), e2⟩
      · have hi' : i = xs.length := by simp at h1; omega
        subst hi'
        have e3 := hA4.len
        have g1 : (xs ++ [Value.slice Ax (8 + p.length) cx])[xs.length] = .slice Ax (8 + p.length) cx := by simp
        have g2 : (d.waits ++ [Frame.wrap p])[xs.length]'h2 = Frame.wrap p := by simp [e3]
        rw [g1, g2]
        have hr : RdB w3 (.slice Ax (8 + p.length) cx) (Frame.wrap p) := hox3.rdB
        exact ⟨(hr.turns hT4 (.inr (hq (by omega) hix))).turns hT5 (.inr (go (by omega) hix)), .inr hix⟩
    · show c g ≠ 0
      rw [hA.hue]; omega
  · (repeat with_reducible first|refine fd f1 (by decide) ?_|refine ld one4 c1 ?_|refine z_a ?_|refine z_b ?_|refine z_F ?_)
    have e : appendAns d p = 15 := by rw [appendAns, if_pos hon]
    rw [e]
    exact ⟨rfl, Left.of hD0 (Below.refl _ _)⟩
end Go.Proofs.Ytadbpelpbaikiaa.E
namespace Go.Proofs.Ytadbpelpbaikiaa.E
open Go Go.RowKit
set_option linter.unusedSimpArgs false
set_option linter.unusedVariables false

section
variable {c : Nat → Nat} {w w' : World} {g : Nat} {d : Dk} {s l q : Value} {xs : List Value}
/-- All but the log, when blocks of the log's colour have turned. -/
theorem DiskAt.but2 (h : DiskAt c w g d s l q xs) {F : Nat → Prop} (hT : Turns F w w') (hF : ∀ k, F k → c k = 2) : Blk w' g 56 #[.int .i64 d.room, .bool d.on, s, l, q] ∧ RdB w' s d.state ∧ Own 22 w' q xs ∧
    ∀ i (h1 : i < xs.length) (h2 : i < d.waits.length), RdB w' xs[i] d.waits[i] ∧ (d.waits[i] = [] ∨ InC c 4 xs[i]) := by
  have no : ∀ {x : Nat} {v : Value}, x ≠ 2 → InC c x v → ∀ b, v.ownBlock = some b → ¬ F b := fun hx hv b hb hFb => hx ((hv b hb).symm.trans (hF b hFb))
  exact ⟨h.blk.turns hT (fun hg => by have := hF g hg; rw [h.hue] at this; omega), h.s1.turns hT (h.s2.imp_right (no (by omega))), h.q1.turns hT (no (by omega) h.q2), fun i h1 h2 => ⟨(h.el i h1 h2).1.turns hT ((h.el i h1 h2).2.imp_right (no (by omega))), (h.el i h1 h2).2⟩⟩
/-- A field of the struct is written anew. -/
theorem DiskAt.putOn (h : DiskAt c w g d s l q xs) (b : Bool) : DiskAt c (w.setCell ⟨g, 1, none⟩ (.bool b)) g { d with on := b } s l q xs := by
  obtain ⟨r1, r2, r3, r4⟩ := h.rest (setT w g 1 (.bool b))
  exact ⟨h.hue, h.blk.set_ 1 _, r1, h.s2, r2, h.l2, r3, h.q2, h.len, r4⟩
theorem DiskAt.putS (h : DiskAt c w g d s l q xs) {u : Value} {bs : List UInt8} (hu : RdB w u bs) (hi : bs = [] ∨ InC c 4 u) : DiskAt c (w.setCell ⟨g, 2, none⟩ u) g { d with state := bs } u l q xs := by
  obtain ⟨r1, r2, r3, r4⟩ := h.rest (setT w g 2 u)
  exact ⟨h.hue, h.blk.set_ 2 _, hu.turns (setT w g 2 u) (hi.imp_right fun hc b hb he => hc.ne h.hue (by omega) (by rw [hb, he])), hi, r2, h.l2, r3, h.q2, h.len, r4⟩
theorem DiskAt.putL (h : DiskAt c w g d s l q xs) {u : Value} {bs : List UInt8} (hu : OwnC 5 w u (bs.map u8)) (hi : InC c 2 u) : DiskAt c (w.setCell ⟨g, 3, none⟩ u) g { d with log := bs } s u q xs := by
  obtain ⟨r1, r2, r3, r4⟩ := h.rest (setT w g 3 u)
  exact ⟨h.hue, h.blk.set_ 3 _, r1, h.s2, hu.turns (setT w g 3 u) (fun b hb he => hi.ne h.hue (by omega) (by rw [hb, he])), hi, r3, h.q2, h.len, r4⟩
theorem DiskAt.putQ0 (h : DiskAt c w g d s l q xs) : DiskAt c (w.setCell ⟨g, 4, none⟩ (.slice none 0 0)) g { d with waits := [] } s l (.slice none 0 0) [] := by
  obtain ⟨r1, r2, r3, r4⟩ := h.rest (setT w g 4 (.slice none 0 0))
  exact ⟨h.hue, h.blk.set_ 4 _, r1, h.s2, r2, h.l2, Own.nil 22 _, InC.nil _ _ _ _, rfl, fun i h1 => by simp at h1⟩
end
/-- Bytes are laid behind the log: the field is loaded, they are appended, the field is stored. -/
theorem DiskAt.logged {c : Nat → Nat} {w w' : World} {g : Nat} {d : Dk} {s l q u : Value} {xs : List Value} {bs : List UInt8} (h : DiskAt c w g d s l q xs) (ho : OwnC 5 w' u ((d.log ++ bs).map u8)) (hbl : u.ownBlock = l.ownBlock ∨ ∃ k, u.ownBlock = some k ∧ w.heap.size ≤ k)
    (hT : Turns (fun j => l.ownBlock = some j) w w') : DiskAt (col c w.heap.size 2) (w'.setCell ⟨g, 3, none⟩ u) g { d with log := d.log ++ bs } s u q xs ∧ Turns (D c) w (w'.setCell ⟨g, 3, none⟩ u) := by
  have hA := h.re (col_lt c w.heap.size 2)
  obtain ⟨r1, r2, r3, r4⟩ := hA.but2 hT (fun k hk => hA.l2 k hk)
  have hu : InC (col c w.heap.size 2) 2 u := fun b hb => by
    rcases hbl with he | ⟨k, he, hk⟩
    · rw [he] at hb; exact hA.l2 b hb
    · rw [he] at hb; cases hb; exact col_ge _ _ _ hk
  have hs := setT w' g 3 u
  have hg := hA.hue
  have go : ∀ {x : Nat} {v : Value}, x ≠ 1 → InC (col c w.heap.size 2) x v → ∀ b, v.ownBlock = some b → ¬ b = g := fun hx hv b hb he => hv.ne hg hx (by rw [hb, he])
  refine ⟨⟨hg, r1.set_ 3 _, r2.turns hs (hA.s2.imp_right (go (by omega))), hA.s2, ho.turns hs (go (by omega) hu), hu, r3.turns hs (go (by omega) hA.q2), hA.q2, hA.len, fun i h1 h2 => ⟨(r4 i h1 h2).1.turns hs ((r4 i h1 h2).2.imp_right (go (by omega))), (r4 i h1 h2).2⟩⟩, ?_⟩
  refine Turns.setCell (hT.mono fun k _ hk => ?_) (.inl ?_) _
  · rw [D, h.l2 k hk]; omega
  · show c g ≠ 0
    rw [h.hue]; omega
def Dk.synced (d : Dk) : Dk := { d with log := d.log ++ d.waits.flatten, waits := [] }
theorem Sync_spec (c : Nat → Nat) (w : World) (g : Nat) (d : Dk) (hD : DiskC c w g d) (hs : d.small) :
    CallP Try.prog 34 #[.pointer (some ⟨g, 0, none⟩)] (fun r w' => r = .int .i64 ((if d.on then 0 else 15 : Nat) : Int) ∧ Left c w g (if d.on then d.synced else d) w') w := by
  have hD0 := hD
  obtain ⟨s, l, q, xs, hA⟩ := hD
  have c1 : w.cell? ⟨g, 1, none⟩ = some (.bool d.on) := hA.blk.cell 1
  refine ⟨S34.calls _ _ _ ?_⟩
  unfold S34
  rcases Bool.eq_false_or_eq_true d.on with hon | hon
  all_goals rw [hon] at c1
  · (repeat with_reducible first|refine fd f1 (by decide) ?_|refine ld one4 c1 ?_|refine z_a ?_|refine z_c ?_|refine z_E ?_)
    have hdr : Below w.heap.size w w.drew := (Below.refl _ _).drew
    have hA1 := hA.below hdr
    have c3 : ∀ w', Blk w' g 56 #[.int .i64 d.room, .bool d.on, s, l, q] → w'.cell? ⟨g, 3, none⟩ = some l := fun w' hb => hb.cell 3
    have c4 : ∀ w', Blk w' g 56 #[.int .i64 d.room, .bool d.on, s, l, q] → w'.cell? ⟨g, 4, none⟩ = some q := fun w' hb => hb.cell 4
    refine draw (fun w' => Blk w' g 56 #[.int .i64 d.room, .bool d.on, s, l, q]) hA1.blk ?_
    (repeat with_reducible first|refine yfd f3 (by decide) ?_|refine yl1 one23 c3 ?_|refine yfd f4 (by decide) ?_|refine yl1 one45 c4 ?_|refine z_W ?_)
    obtain ⟨hs1, hs2, hs3⟩ := hs
    have hu : d.used = costL d.state + d.log.length + d.waits.flatten.length := rfl
    refine act ?_
    refine (Concat_spec q d.waits _ hA1.ss (by omega) (by omega)).mono ?_
    rintro v2 w2 ⟨ho2, hf2, hb2⟩
    have hA2 := hA1.below hb2
    have hb2' := below_then hdr hb2
    refine ⟨_, hA2.blk, fun _ h => h, ?_⟩
    refine act ?_
    refine apO und23 inf5 (by rfl) (by decide) hA2.l1 ho2.rd (u8_one _) (by simp only [List.length_map]; omega) ?_
    intro v3 w3 ho3 hbl3 hT3
    have hblk3 := hA2.blk.turns hT3 (fun he => hA2.l2.ne hA2.hue (by omega) he)
    refine ⟨_, hblk3, fun _ h => h, ?_⟩
    rw [← List.map_append] at ho3
    obtain ⟨hA4, hT4⟩ := hA2.logged ho3 hbl3 hT3
    (repeat with_reducible first|refine yfd f3 (by decide) ?_|refine z_W ?_)
    obtain ⟨A3, n3, rfl⟩ := ho3.slice
    refine st sz23 rfl (by rw [hblk3.cell 3]; rfl) (hblk3.frozen 3) ?_
    generalize w3.setCell ⟨g, 3, none⟩ (.slice A3 ((d.log ++ d.waits.flatten).map u8).length n3) = w4 at *
    (repeat with_reducible first|refine fd f4 (by decide) ?_|refine z_a ?_)
    refine st sz45 rfl (by rw [hA4.blk.cell 4]; rfl) (hA4.blk.frozen 4) ?_
    have hA5 := hA4.putQ0
    rw [hon]
    refine ⟨rfl, col c w2.heap.size 2, fun k hk => col_lt _ _ _ k (Nat.lt_of_lt_of_le hk hb2'.size), ⟨_, _, _, _, hA5⟩, ?_⟩
    refine Turns.setCell ((Turns.of_below hb2').trans (hT4.mono fun k _ hk => .inl hk)) (.inl ?_) _
    show c g ≠ 0
    rw [hA.hue]; omega
  · (repeat with_reducible first|refine fd f1 (by decide) ?_|refine ld one4 c1 ?_|refine z_a ?_|refine z_b ?_|refine z_F ?_)
    rw [hon]
    exact ⟨rfl, Left.of hD0 (Below.refl _ _)⟩
/-- What Checkpoint answers. -/
def checkAns (d : Dk) (bs : List UInt8) : Nat := if d.on = false then 15 else if 0 < d.waits.length then 10 else if d.room < costL bs then 6 else 0
theorem Checkpoint_spec (c : Nat → Nat) (w : World) (g : Nat) (d : Dk) (v : Value) (bs : List UInt8) (hD : DiskC c w g d) (hs : d.small) (hv : RdB w v bs) (hl : bs.length ≤ 100000000) :
    CallP Try.prog 10 #[.pointer (some ⟨g, 0, none⟩), v] (fun r w' => r = .int .i64 (checkAns d bs) ∧ Left c w g (if checkAns d bs = 0 then { d with state := bs, log := [] } else d) w') w := by
  have hD0 := hD
  obtain ⟨s, l, q, xs, hA⟩ := hD
  have c1 : w.cell? ⟨g, 1, none⟩ = some (.bool d.on) := hA.blk.cell 1
  have c4 : w.cell? ⟨g, 4, none⟩ = some q := hA.blk.cell 4
  obtain ⟨Aq, cq, rfl, _, _⟩ := hA.ss.slice
  refine ⟨S10.calls _ _ _ _ ?_⟩
  unfold S10
  rcases Bool.eq_false_or_eq_true d.on with hon | hon
  all_goals rw [hon] at c1
  · (repeat with_reducible first|refine fd f1 (by decide) ?_|refine ld one4 c1 ?_|refine fd f4 (by decide) ?_|refine ld one45 c4 ?_|refine z_a ?_|refine z_c ?_|refine z_E ?_)
    refine ln und45 ?_
    (first | refine bi_lss_c (fun h => ?_) (fun h => ?_) | refine bi_eql_c (fun h => ?_) (fun h => ?_) | refine bi_neq_c (fun h => ?_) (fun h => ?_) | refine bi_gtr_c (fun h => ?_) (fun h => ?_) | refine bi_leq_c (fun h => ?_) (fun h => ?_) | refine bi_geq_c (fun h => ?_) (fun h => ?_) | refine bi_seql_c (fun h => ?_) (fun h => ?_) | refine bi_sneq_c (fun h => ?_) (fun h => ?_))
    · have e : checkAns d bs = 10 := by rw [checkAns, if_neg (by rw [hon]; simp), if_pos (by omega)]
      (repeat with_reducible first|refine z_b ?_)
      rw [e]
      exact ⟨rfl, Left.of hD0 (Below.refl _ _)⟩
    have hdr : Below w.heap.size w w.drew := (Below.refl _ _).drew
    have c0 : ∀ w', Below w.heap.size w w' → w'.cell? ⟨g, 0, none⟩ = some (.int .i64 d.room) := fun w' hb => (hA.blk.below' hb).cell 0
    (repeat with_reducible first|refine z_c ?_)
    refine draw (Below w.heap.size w) hdr ?_
    (repeat with_reducible first|refine yfd f0 (by decide) ?_|refine yl1 one3 c0 ?_|refine z_W ?_)
    refine act ?_
    refine (cost_spec v bs _ (hv.below hdr) (by omega)).mono ?_
    rintro _ _ ⟨rfl, rfl⟩
    refine ⟨_, hdr, fun _ h => h, ?_⟩
    (first | refine yi_lss_c (fun h => ?_) (fun h => ?_) | refine yi_eql_c (fun h => ?_) (fun h => ?_) | refine yi_neq_c (fun h => ?_) (fun h => ?_) | refine yi_gtr_c (fun h => ?_) (fun h => ?_) | refine yi_leq_c (fun h => ?_) (fun h => ?_) | refine yi_geq_c (fun h => ?_) (fun h => ?_) | refine yi_seql_c (fun h => ?_) (fun h => ?_) | refine yi_sneq_c (fun h => ?_) (fun h => ?_))
    · have e : checkAns d bs = 6 := by rw [checkAns, if_neg (by rw [hon]; simp), if_neg (by omega), if_pos (by omega)]
      (repeat with_reducible first|refine z_b ?_)
      rw [e]
      exact ⟨rfl, Left.of hD0 hdr⟩
    have e : checkAns d bs = 0 := by rw [checkAns, if_neg (by rw [hon]; simp), if_neg (by omega), if_neg (by omega)]
    rw [e, if_pos rfl]
    (repeat with_reducible first|refine z_c ?_)
    refine (Clone_own v bs _ (hv.below hdr) (by omega)).mono ?_
    rintro v2 w2 ⟨ho2, hf2, hb2⟩
    have hb2' := below_then hdr hb2
    have hA2 := (hA.below hb2').re (c' := col c w.heap.size 4)
    have hAc := (hA.re (col_lt c w.heap.size 4)).below hb2'
    have hi : InC (col c w.heap.size 4) 4 v2 := InC.fresh (n := w.heap.size) hf2
    (repeat with_reducible first|refine fd f2 (by decide) ?_|refine z_a ?_)
    obtain ⟨A2, n2, rfl⟩ := ho2.slice
    refine st sz23 rfl (by rw [hAc.blk.cell 2]; rfl) (hAc.blk.frozen 2) ?_
    have hA3 := hAc.putS ho2.rdB (.inr hi)
    have hT3 : Turns (D c) w (w2.setCell ⟨g, 2, none⟩ (.slice A2 (bs.map u8).length n2)) := (Turns.of_below hb2').setCell (.inl (by show c g ≠ 0; rw [hA.hue]; omega)) _
    generalize w2.setCell ⟨g, 2, none⟩ (.slice A2 (bs.map u8).length n2) = w3 at *
    (repeat with_reducible first|refine fd f3 (by decide) ?_|refine z_a ?_)
    refine st sz23 rfl (by rw [hA3.blk.cell 3]; rfl) (hA3.blk.frozen 3) ?_
    have hA4 := hA3.putL (u := .slice none 0 0) (bs := []) (Own.nil 5 _).c (InC.nil _ _ _ _)
    exact ⟨rfl, _, col_lt _ _ _, ⟨_, _, _, _, hA4⟩, hT3.setCell (.inl (by show c g ≠ 0; rw [hA.hue]; omega)) _⟩
  · (repeat with_reducible first|refine fd f1 (by decide) ?_|refine ld one4 c1 ?_|refine z_a ?_|refine z_b ?_|refine z_F ?_)
    have e : checkAns d bs = 15 := by rw [checkAns, if_pos hon]
    rw [e]
    exact ⟨rfl, Left.of hD0 (Below.refl _ _)⟩
theorem scan_le : ∀ (n : Nat) (bs : List UInt8), bs.length ≤ n → (Frame.scan bs).2 ≤ bs.length := by
  intro n
  induction n with
  | zero =>
    intro bs h
    by_cases hv : (Frame.view bs).2.2 = 0
    · have := Frame.view_ok bs hv; omega
    · rw [Frame.scan_end bs hv]; simp
  | succ n ih =>
    intro bs h
    by_cases hv : (Frame.view bs).2.2 = 0
    · have h1 := Frame.view_ok bs hv
      have h2 := ih (bs.drop (Frame.view bs).2.1) (by rw [List.length_drop]; omega)
      rw [Frame.scan_ok bs hv]
      rw [List.length_drop] at h2
      simp only
      omega
    · rw [Frame.scan_end bs hv]; simp
theorem Elem.turns {F : Nat → Prop} {w w' : World} {B : Nat} {u : Value} {p : List UInt8} (h : Elem w B u p) (hT : Turns F w w') (hF : ∀ k, u.ownBlock = some k → B ≤ k → ¬ F k) : Elem w' B u p := by
  obtain ⟨h1, A, rfl, h2⟩ := h
  refine ⟨h1.turns hT ?_, A, rfl, fun j hj => ?_⟩
  · by_cases hp : p.length = 0
    · exact .inl (List.eq_nil_of_length_eq_zero hp)
    · obtain ⟨g, rfl, h3, _⟩ := h2 0 (by omega)
      refine .inr fun b hb => ?_
      cases hb
      exact hF g rfl h3
  · obtain ⟨g, rfl, h3, h4⟩ := h2 j hj
    refine ⟨g, rfl, h3, ?_⟩
    obtain ⟨a, ha, hc⟩ := RdB.at h1 j hj
    cases ha
    rw [add0, Nat.zero_add] at hc
    have e := World.frozen?_of_block (w := w) (w' := w') (a := ⟨g, j, none⟩) (hT.block g (World.block_lt_of_cell? w _ hc) (hF g rfl h3))
    rw [e]
    exact h4
theorem Elem.mono {w : World} {B B' : Nat} {u : Value} {p : List UInt8} (h : Elem w B u p) (hB : B' ≤ B) : Elem w B' u p := by
  obtain ⟨h1, A, h2, h3⟩ := h
  exact ⟨h1, A, h2, fun j hj => by obtain ⟨g, e1, e2, e3⟩ := h3 j hj; exact ⟨g, e1, Nat.le_trans hB e2, e3⟩⟩
theorem RowE.mono {w : World} {B B' : Nat} {l : Value} {acc : List (List UInt8)} (h : RowE w B l acc) (hB : B' ≤ B) : RowE w B' l acc := by
  obtain ⟨xs, h1, h2, h3, h4⟩ := h
  exact ⟨xs, h1, h2, h3, fun i g1 g2 => ⟨(h4 i g1 g2).1.mono hB, (h4 i g1 g2).2⟩⟩
theorem RowE.turns {F : Nat → Prop} {w w' : World} {B : Nat} {l : Value} {acc : List (List UInt8)} (h : RowE w B l acc) (hf : Fresh B l) (hT : Turns F w w') (hF : ∀ k, B ≤ k → ¬ F k) : RowE w' B l acc := by
  obtain ⟨xs, h1, h2, h3, h4⟩ := h
  exact ⟨xs, h1.turns hT (fun k hk => hF k (hf k hk)), h2, h3, fun i g1 g2 => ⟨(h4 i g1 g2).1.turns hT (fun k _ hk => hF k hk), (h4 i g1 g2).2⟩⟩
/-- What Start leaves. -/
def Dk.started (d : Dk) : Dk := { d with on := true, log := d.log.take (Frame.scan d.log).2 }
theorem Start_spec (c : Nat → Nat) (w : World) (g : Nat) (d : Dk) (hD : DiskC c w g d) (hs : d.small) :
    CallP Try.prog 9 #[.pointer (some ⟨g, 0, none⟩)] (fun r w' => if d.on then r = .tuple #[.slice none 0 0, .slice none 0 0, .int .i64 8] ∧ w = w'
      else ∃ x y c', r = .tuple #[x, y, .int .i64 0] ∧ (∀ k, k < w.heap.size → c' k = c k) ∧ (∀ k, w.heap.size ≤ k → c' k = 0) ∧ DiskC c' w' g d.started ∧ Turns (D c) w w' ∧ Elem w' w.heap.size x d.state ∧ RowE w' w.heap.size y (Frame.scan d.log).1 ∧ Fresh w.heap.size y ∧ (d.state = [] ∨ x.ownBlock ≠ y.ownBlock)) w := by
  have hD0 := hD
  obtain ⟨s, l, q, xs, hA⟩ := hD
  have c1 : w.cell? ⟨g, 1, none⟩ = some (.bool d.on) := hA.blk.cell 1
  refine ⟨S9.calls _ _ _ ?_⟩
  unfold S9
  rcases Bool.eq_false_or_eq_true d.on with hon | hon
  all_goals rw [hon] at c1
  · (repeat with_reducible first|refine fd f1 (by decide) ?_|refine ld one4 c1 ?_|refine z_a ?_|refine z_b ?_)
    rw [hon]
    exact ⟨rfl, rfl⟩
  · obtain ⟨hs1, hs2, hs3⟩ := hs
    have hu : d.used = costL d.state + d.log.length + d.waits.flatten.length := rfl
    have hst : d.state.length ≤ costL d.state := by unfold costL; split <;> omega
    (repeat with_reducible first|refine fd f1 (by decide) ?_|refine ld one4 c1 ?_|refine z_a ?_|refine z_c ?_)
    refine st sz4 rfl (by rw [hA.blk.cell 1]; rfl) (hA.blk.frozen 1) ?_
    have hA1 := (hA.re (col_lt c w.heap.size 0)).putOn true
    have hT1 := hA.cells 1 (.bool true)
    have hsz1 : (w.setCell ⟨g, 1, none⟩ (.bool true)).heap.size = w.heap.size := by simp [World.setCell]
    generalize w.setCell ⟨g, 1, none⟩ (.bool true) = w1 at *
    have c3 : w1.cell? ⟨g, 3, none⟩ = some l := hA1.blk.cell 3
    (repeat with_reducible first|refine fd f3 (by decide) ?_|refine ld one23 c3 ?_|refine z_a ?_)
    refine (Scan_elem l d.log w1 hA1.l1.rd (by omega)).mono ?_
    rintro _ w2 ⟨y, rfl, hy, hfy, hb2⟩
    have hA2 := hA1.below hb2
    have c3' : w2.cell? ⟨g, 3, none⟩ = some l := hA2.blk.cell 3
    have hl1 := hA2.l1
    obtain ⟨Al, nl, rfl⟩ := hl1.slice
    have hcl := hl1.rd
    obtain ⟨_, _, he, hcap, _⟩ := hcl
    cases he
    rw [List.length_map] at hcap
    replace hcap : d.log.length ≤ nl := hcap
    have hsc := scan_le _ d.log (Nat.le_refl _)
    (repeat with_reducible first|refine fd f3 (by decide) ?_|refine ld one23 c3' ?_|refine z_a ?_|refine z_A ?_|refine z_B ?_)
    refine ofPR (pr_cut und23 sz5 .no (.at _ _) (.at _ _) (Nat.zero_le _) (fun h => by cases h) (Nat.le_refl _) (by omega) (.inr (by simp))) ?_
    obtain ⟨hcut, hbl⟩ := hl1.cut (Frame.scan d.log).2 (by rw [List.length_map]; omega)
    rw [← List.map_take] at hcut
    (repeat with_reducible first|refine fd f3 (by decide) ?_|refine z_a ?_)
    refine st sz23 (by unfold sliced; split <;> rfl) (by rw [hA2.blk.cell 3]; rfl) (hA2.blk.frozen 3) ?_
    have hA3 := hA2.putL hcut (fun b hb => hA2.l2 b (hbl b hb))
    have hT3 : Turns (D c) w (w2.setCell ⟨g, 3, none⟩ (sliced Al 0 (Frame.scan d.log).2 (Frame.scan d.log).2 1)) := (hT1.then_below hb2).setCell (.inl (by show c g ≠ 0; rw [hA.hue]; omega)) _
    have hy3 : RowE (w2.setCell ⟨g, 3, none⟩ (sliced Al 0 (Frame.scan d.log).2 (Frame.scan d.log).2 1)) w1.heap.size y (Frame.scan d.log).1 := hy.turns hfy (setT w2 g 3 _) (fun k hk he => by have := hA.blk.lt; omega)
    have hsz3 : (w2.setCell ⟨g, 3, none⟩ (sliced Al 0 (Frame.scan d.log).2 (Frame.scan d.log).2 1)).heap.size = w2.heap.size := by simp [World.setCell]
    generalize w2.setCell ⟨g, 3, none⟩ (sliced Al 0 (Frame.scan d.log).2 (Frame.scan d.log).2 1) = w3 at *
    have c2 : w3.cell? ⟨g, 2, none⟩ = some s := hA3.blk.cell 2
    (repeat with_reducible first|refine fd f2 (by decide) ?_|refine ld one23 c2 ?_|refine z_a ?_)
    refine (Clone_own s d.state w3 hA3.s1 (by omega)).mono ?_
    rintro v4 w4 ⟨ho4, hf4, hb4⟩
    refine (Clip_elem v4 d.state w3.heap.size w4 ho4 hf4).mono ?_
    rintro v5 w5 ⟨he5, hbl5, rfl⟩
    have hs2 := hb2.size
    rw [hon]
    refine ⟨v5, y, _, rfl, col_lt c _ 0, fun k hk => col_ge c _ 0 hk, ⟨_, _, _, _, hA3.below hb4⟩, hT3.then_below hb4, ?_, ?_, ?_, ?_⟩
    · exact he5.mono (by omega)
    · exact (hy3.below hb4).mono (by omega)
    · intro k hk; have := hfy k hk; omega
    · by_cases hz : d.state = []
      · exact .inl hz
      refine .inr fun he => ?_
      obtain ⟨ys, hy1, _⟩ := hy3
      obtain ⟨k, hq, _⟩ := Rd.block_lt he5.1 (by simpa using hz)
      rw [hq] at he
      have h1 := hy1.ownLt he.symm
      have h2 := hf4 k (by rw [← hbl5]; exact hq)
      omega
end Go.Proofs.Ytadbpelpbaikiaa.E
