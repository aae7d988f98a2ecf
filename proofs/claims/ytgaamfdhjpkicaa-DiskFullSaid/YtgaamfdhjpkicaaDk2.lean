/- The disk: New, Append, Sync, Checkpoint. -/
import Derived.Test.YtgaamfdhjpkicaaDk1
namespace Go.Proofs.Ytgaamfdhjpkicaa.E
open Go Go.RowKit
set_option linter.unusedSimpArgs false
set_option linter.unusedVariables false

theorem New_spec (w : World) (room : Int) (hr : -9223372036854775808 ≤ room ∧ room ≤ 9223372036854775807) :
    CallP Try.prog 34 #[.int .i64 room] (fun r w' => (if room < 0 ∨ 4194304 < room then r = .tuple #[.pointer none, .int .i64 1]
      else ∃ g c, r = .tuple #[.pointer (some ⟨g, 0, none⟩), .int .i64 0] ∧ (∀ k, k < w.heap.size → c k = 0) ∧ DiskC c w' g ⟨room.toNat, false, [], [], []⟩) ∧ Below w.heap.size w w') w := by
  refine ⟨S34.calls _ _ _ ?_⟩
  unfold S34
  refine bd (cells := #[.int .i64 0, .bool false, .slice none 0 0, .slice none 0 0, .slice none 0 0]) (by kernel_rfl) ?_
  refine bx ?_
  have hbl : Blk (w.alloc (.cells (Value.agg #[.int .i64 0, .bool false, .slice none 0 0, .slice none 0 0, .slice none 0 0]).cells 76)) w.heap.size 76 #[.int .i64 0, .bool false, .slice none 0 0, .slice none 0 0, .slice none 0 0] := Blk.new w 76 _
  have ha : Below w.heap.size w (w.alloc (.cells (Value.agg #[.int .i64 0, .bool false, .slice none 0 0, .slice none 0 0, .slice none 0 0]).cells 76)) := (Below.refl _ _).alloc (Nat.le_refl _) _
  generalize w.alloc (.cells (Value.agg #[.int .i64 0, .bool false, .slice none 0 0, .slice none 0 0, .slice none 0 0]).cells 76) = w1 at *
  have hD : DiskC (fun k => if k = w.heap.size then 1 else 0) w1 w.heap.size ⟨0, false, [], [], []⟩ :=
    ⟨_, _, _, [], ⟨by simp, hbl, (Own.nil 5 w1).rd, .inl rfl, (Own.nil 5 w1).c, InC.nil _ _ _ _, Own.nil 23 w1, InC.nil _ _ _ _, rfl, fun i h1 => by simp at h1⟩⟩
  refine (Resize_spec _ w1 _ _ room hD ⟨by simp [Dk.used, costL], by simp, by simp⟩).mono ?_
  rintro _ w2 ⟨rfl, c', hc', hD2, hT⟩
  have hb2 : Below w.heap.size w w2 := ha.trans (hT.below ha.size fun k hk hF => by rw [D] at hF; exact hF (by rw [if_neg (by omega)]))
  have eu : (Dk.mk 0 false [] [] []).used = 0 := by simp [Dk.used, costL]
  by_cases hroom : room < 0 ∨ 4194304 < room
  · have e1 : resizeAns ⟨0, false, [], [], []⟩ room = 1 := by rw [resizeAns, if_pos hroom]
    rw [e1]
    (repeat (first | (with_reducible refine nck ?_) | (with_reducible refine cdT ?_) | (with_reducible refine cdF ?_) | (with_reducible refine gdY ?_) | (with_reducible refine gdFT ?_) | (with_reducible refine gdTF ?_) | (with_reducible refine gdU ?_) | (with_reducible refine gaY ?_) | (with_reducible refine gaFT ?_) | (with_reducible refine gaTF ?_) | (with_reducible refine pickT ?_) | (with_reducible refine pickF ?_) | (with_reducible refine bi_lss_t (by omega) ?_) | (with_reducible refine bi_lss_f (by omega) ?_) | (with_reducible refine bi_add64 (by omega) ?_) | (with_reducible refine bi_sub64 (by omega) ?_) | (with_reducible refine bi_eql_t (by omega) ?_) | (with_reducible refine bi_eql_f (by omega) ?_) | (with_reducible refine bi_neq_t (by omega) ?_) | (with_reducible refine bi_neq_f (by omega) ?_) | (with_reducible refine bi_gtr_t (by omega) ?_) | (with_reducible refine bi_gtr_f (by omega) ?_) | (with_reducible refine bi_leq_t (by omega) ?_) | (with_reducible refine bi_leq_f (by omega) ?_) | (with_reducible refine bi_geq_t (by omega) ?_) | (with_reducible refine bi_geq_f (by omega) ?_) | (with_reducible refine bi_xt0 ?_) | (with_reducible refine bi_xt1 ?_) | (with_reducible refine bi_xt2 ?_) | (with_reducible refine bi_xt3 ?_) | (with_reducible refine bi_T ?_) | (with_reducible refine bi_F ?_) | (with_reducible refine bi_not ?_) | (with_reducible refine bi_and ?_) | (with_reducible refine bi_or ?_) | (with_reducible refine bi_xor ?_) | (with_reducible refine bi_shr (by omega) (by decide) ?_) | (with_reducible refine bi_shl (by omega) (by decide) ?_) | (with_reducible refine bi_quo64 (by omega) ?_) | (with_reducible refine bi_rem64 (by omega) ?_) | (with_reducible refine bi_mul64 (by omega) ?_) | (with_reducible refine bi_neg ?_) | (with_reducible refine bi_un_xor32 ?_) | (with_reducible refine bi_add ?_) | (with_reducible refine bi_sub ?_) | (with_reducible refine bi_mul ?_) | (with_reducible refine bi_quo (by decide) ?_) | (with_reducible refine bi_rem (by decide) ?_)))
    refine ⟨?_, hb2⟩
    rw [if_pos hroom]
    rfl
  · have e1 : resizeAns ⟨0, false, [], [], []⟩ room = 0 := by
      rw [resizeAns, if_neg hroom, eu, if_neg (by omega)]
    rw [e1] at hD2 ⊢
    rw [if_pos rfl] at hD2
    (repeat (first | (with_reducible refine nck ?_) | (with_reducible refine cdT ?_) | (with_reducible refine cdF ?_) | (with_reducible refine gdY ?_) | (with_reducible refine gdFT ?_) | (with_reducible refine gdTF ?_) | (with_reducible refine gdU ?_) | (with_reducible refine gaY ?_) | (with_reducible refine gaFT ?_) | (with_reducible refine gaTF ?_) | (with_reducible refine pickT ?_) | (with_reducible refine pickF ?_) | (with_reducible refine bi_lss_t (by omega) ?_) | (with_reducible refine bi_lss_f (by omega) ?_) | (with_reducible refine bi_add64 (by omega) ?_) | (with_reducible refine bi_sub64 (by omega) ?_) | (with_reducible refine bi_eql_t (by omega) ?_) | (with_reducible refine bi_eql_f (by omega) ?_) | (with_reducible refine bi_neq_t (by omega) ?_) | (with_reducible refine bi_neq_f (by omega) ?_) | (with_reducible refine bi_gtr_t (by omega) ?_) | (with_reducible refine bi_gtr_f (by omega) ?_) | (with_reducible refine bi_leq_t (by omega) ?_) | (with_reducible refine bi_leq_f (by omega) ?_) | (with_reducible refine bi_geq_t (by omega) ?_) | (with_reducible refine bi_geq_f (by omega) ?_) | (with_reducible refine bi_xt0 ?_) | (with_reducible refine bi_xt1 ?_) | (with_reducible refine bi_xt2 ?_) | (with_reducible refine bi_xt3 ?_) | (with_reducible refine bi_T ?_) | (with_reducible refine bi_F ?_) | (with_reducible refine bi_not ?_) | (with_reducible refine bi_and ?_) | (with_reducible refine bi_or ?_) | (with_reducible refine bi_xor ?_) | (with_reducible refine bi_shr (by omega) (by decide) ?_) | (with_reducible refine bi_shl (by omega) (by decide) ?_) | (with_reducible refine bi_quo64 (by omega) ?_) | (with_reducible refine bi_rem64 (by omega) ?_) | (with_reducible refine bi_mul64 (by omega) ?_) | (with_reducible refine bi_neg ?_) | (with_reducible refine bi_un_xor32 ?_) | (with_reducible refine bi_add ?_) | (with_reducible refine bi_sub ?_) | (with_reducible refine bi_mul ?_) | (with_reducible refine bi_quo (by decide) ?_) | (with_reducible refine bi_rem (by decide) ?_)))
    have h1 := ha.size
    have hlt : ∀ k, k < w.heap.size → k < w1.heap.size := fun k hk => Nat.lt_of_lt_of_le hk h1
    refine ⟨?_, hb2⟩
    rw [if_neg hroom]
    exact ⟨_, c', rfl, fun k hk => by rw [hc' k (hlt k hk)]; simp only; rw [if_neg (by omega)], hD2⟩

section
variable {c c1 : Nat → Nat} {w w1 w2 : World} {g : Nat} {d : Dk}
theorem Left.of (h : DiskC c w g d) (hb : Below w.heap.size w w1) : Left c w g d w1 := ⟨c, fun _ _ => rfl, h.below hb, Turns.of_below hb⟩
theorem Left.then (hb : Below w.heap.size w w1) (hc : ∀ k, k < w.heap.size → c1 k = c k) (h : Left c1 w1 g d w2) : Left c w g d w2 := by
  obtain ⟨c2, h1, h2, h3⟩ := h
  exact ⟨c2, fun k hk => (h1 k (Nat.lt_of_lt_of_le hk hb.size)).trans (hc k hk), h2, (Turns.of_below hb).step hc h3⟩
end
/-- What Append answers. -/
def appendAns (d : Dk) (p : List UInt8) : Nat := if d.on = false then 15 else if 65536 < p.length then 4 else if d.room < d.used + (8 + p.length) then 6 else 0
def Dk.appended (d : Dk) (p : List UInt8) : Dk := { d with waits := d.waits ++ [Frame.wrap p] }
theorem Append_spec (c : Nat → Nat) (w : World) (g : Nat) (d : Dk) (v : Value) (p : List UInt8) (hD : DiskC c w g d) (hs : d.small) (hv : RdB w v p) :
    CallP Try.prog 36 #[.pointer (some ⟨g, 0, none⟩), v] (fun r w' => r = .int .i64 (appendAns d p) ∧ Left c w g (if appendAns d p = 0 then d.appended p else d) w') w := by
  have hD0 := hD
  obtain ⟨s, l, q, xs, hA⟩ := hD
  have c1 : w.cell? ⟨g, 1, none⟩ = some (.bool d.on) := hA.blk.cell 1
  refine ⟨S36.calls _ _ _ _ ?_⟩
  unfold S36
  rcases Bool.eq_false_or_eq_true d.on with hon | hon
  all_goals rw [hon] at c1
  · (repeat (first | (with_reducible refine fd f1 (by decide) ?_) | (with_reducible refine ld one4 c1 ?_) | (with_reducible refine nck ?_) | (with_reducible refine cdT ?_) | (with_reducible refine cdF ?_) | (with_reducible refine gdY ?_) | (with_reducible refine gdFT ?_) | (with_reducible refine gdTF ?_) | (with_reducible refine gdU ?_) | (with_reducible refine gaY ?_) | (with_reducible refine gaFT ?_) | (with_reducible refine gaTF ?_) | (with_reducible refine pickT ?_) | (with_reducible refine pickF ?_) | (with_reducible refine bi_lss_t (by omega) ?_) | (with_reducible refine bi_lss_f (by omega) ?_) | (with_reducible refine bi_add64 (by omega) ?_) | (with_reducible refine bi_sub64 (by omega) ?_) | (with_reducible refine bi_eql_t (by omega) ?_) | (with_reducible refine bi_eql_f (by omega) ?_) | (with_reducible refine bi_neq_t (by omega) ?_) | (with_reducible refine bi_neq_f (by omega) ?_) | (with_reducible refine bi_gtr_t (by omega) ?_) | (with_reducible refine bi_gtr_f (by omega) ?_) | (with_reducible refine bi_leq_t (by omega) ?_) | (with_reducible refine bi_leq_f (by omega) ?_) | (with_reducible refine bi_geq_t (by omega) ?_) | (with_reducible refine bi_geq_f (by omega) ?_) | (with_reducible refine bi_xt0 ?_) | (with_reducible refine bi_xt1 ?_) | (with_reducible refine bi_xt2 ?_) | (with_reducible refine bi_xt3 ?_) | (with_reducible refine bi_T ?_) | (with_reducible refine bi_F ?_) | (with_reducible refine bi_not ?_) | (with_reducible refine bi_and ?_) | (with_reducible refine bi_or ?_) | (with_reducible refine bi_xor ?_) | (with_reducible refine bi_shr (by omega) (by decide) ?_) | (with_reducible refine bi_shl (by omega) (by decide) ?_) | (with_reducible refine bi_quo64 (by omega) ?_) | (with_reducible refine bi_rem64 (by omega) ?_) | (with_reducible refine bi_mul64 (by omega) ?_) | (with_reducible refine bi_neg ?_) | (with_reducible refine bi_un_xor32 ?_) | (with_reducible refine bi_add ?_) | (with_reducible refine bi_sub ?_) | (with_reducible refine bi_mul ?_) | (with_reducible refine bi_quo (by decide) ?_) | (with_reducible refine bi_rem (by decide) ?_)))
    refine (Wrap_spec v p w hv).mono ?_
    rintro _ w1 ⟨x, rfl, hox, hfx, hb1⟩
    unfold Frame.wrapAns at hox ⊢
    rcases Nat.lt_or_ge 65536 p.length with hp | hp
    · have e : appendAns d p = 4 := by rw [appendAns, if_neg (by rw [hon]; simp), if_pos hp]
      rw [if_neg (by omega), e]
      (repeat (first | (with_reducible refine nck ?_) | (with_reducible refine cdT ?_) | (with_reducible refine cdF ?_) | (with_reducible refine gdY ?_) | (with_reducible refine gdFT ?_) | (with_reducible refine gdTF ?_) | (with_reducible refine gdU ?_) | (with_reducible refine gaY ?_) | (with_reducible refine gaFT ?_) | (with_reducible refine gaTF ?_) | (with_reducible refine pickT ?_) | (with_reducible refine pickF ?_) | (with_reducible refine bi_lss_t (by omega) ?_) | (with_reducible refine bi_lss_f (by omega) ?_) | (with_reducible refine bi_add64 (by omega) ?_) | (with_reducible refine bi_sub64 (by omega) ?_) | (with_reducible refine bi_eql_t (by omega) ?_) | (with_reducible refine bi_eql_f (by omega) ?_) | (with_reducible refine bi_neq_t (by omega) ?_) | (with_reducible refine bi_neq_f (by omega) ?_) | (with_reducible refine bi_gtr_t (by omega) ?_) | (with_reducible refine bi_gtr_f (by omega) ?_) | (with_reducible refine bi_leq_t (by omega) ?_) | (with_reducible refine bi_leq_f (by omega) ?_) | (with_reducible refine bi_geq_t (by omega) ?_) | (with_reducible refine bi_geq_f (by omega) ?_) | (with_reducible refine bi_xt0 ?_) | (with_reducible refine bi_xt1 ?_) | (with_reducible refine bi_xt2 ?_) | (with_reducible refine bi_xt3 ?_) | (with_reducible refine bi_T ?_) | (with_reducible refine bi_F ?_) | (with_reducible refine bi_not ?_) | (with_reducible refine bi_and ?_) | (with_reducible refine bi_or ?_) | (with_reducible refine bi_xor ?_) | (with_reducible refine bi_shr (by omega) (by decide) ?_) | (with_reducible refine bi_shl (by omega) (by decide) ?_) | (with_reducible refine bi_quo64 (by omega) ?_) | (with_reducible refine bi_rem64 (by omega) ?_) | (with_reducible refine bi_mul64 (by omega) ?_) | (with_reducible refine bi_neg ?_) | (with_reducible refine bi_un_xor32 ?_) | (with_reducible refine bi_add ?_) | (with_reducible refine bi_sub ?_) | (with_reducible refine bi_mul ?_) | (with_reducible refine bi_quo (by decide) ?_) | (with_reducible refine bi_rem (by decide) ?_)))
      exact ⟨rfl, Left.of hD0 hb1⟩
    rw [if_pos hp] at hox ⊢
    simp only at hox
    have hwl : ((Frame.wrap p).map u8).length = 8 + p.length := by rw [List.length_map, Frame.wrap_length]
    have hDc : DiskC (col c w.heap.size 4) w1 g d := (hD0.re (col_lt c w.heap.size 4)).below hb1
    have hic : InC (col c w.heap.size 4) 4 x := InC.fresh hfx
    obtain ⟨Ax, cx, rfl⟩ := hox.slice
    rw [hwl] at hox hic ⊢
    obtain ⟨s, l, q, xs, hA1⟩ := hDc
    have c0 : ∀ w', Below w1.heap.size w1 w' → w'.cell? ⟨g, 0, none⟩ = some (.int .i64 d.room) := fun w' hb => (hA1.blk.below' hb).cell 0
    have hdr : Below w1.heap.size w1 w1.drew := (Below.refl _ _).drew
    (repeat (first | (with_reducible refine nck ?_) | (with_reducible refine cdT ?_) | (with_reducible refine cdF ?_) | (with_reducible refine gdY ?_) | (with_reducible refine gdFT ?_) | (with_reducible refine gdTF ?_) | (with_reducible refine gdU ?_) | (with_reducible refine gaY ?_) | (with_reducible refine gaFT ?_) | (with_reducible refine gaTF ?_) | (with_reducible refine pickT ?_) | (with_reducible refine pickF ?_) | (with_reducible refine bi_lss_t (by omega) ?_) | (with_reducible refine bi_lss_f (by omega) ?_) | (with_reducible refine bi_add64 (by omega) ?_) | (with_reducible refine bi_sub64 (by omega) ?_) | (with_reducible refine bi_eql_t (by omega) ?_) | (with_reducible refine bi_eql_f (by omega) ?_) | (with_reducible refine bi_neq_t (by omega) ?_) | (with_reducible refine bi_neq_f (by omega) ?_) | (with_reducible refine bi_gtr_t (by omega) ?_) | (with_reducible refine bi_gtr_f (by omega) ?_) | (with_reducible refine bi_leq_t (by omega) ?_) | (with_reducible refine bi_leq_f (by omega) ?_) | (with_reducible refine bi_geq_t (by omega) ?_) | (with_reducible refine bi_geq_f (by omega) ?_) | (with_reducible refine bi_xt0 ?_) | (with_reducible refine bi_xt1 ?_) | (with_reducible refine bi_xt2 ?_) | (with_reducible refine bi_xt3 ?_) | (with_reducible refine bi_T ?_) | (with_reducible refine bi_F ?_) | (with_reducible refine bi_not ?_) | (with_reducible refine bi_and ?_) | (with_reducible refine bi_or ?_) | (with_reducible refine bi_xor ?_) | (with_reducible refine bi_shr (by omega) (by decide) ?_) | (with_reducible refine bi_shl (by omega) (by decide) ?_) | (with_reducible refine bi_quo64 (by omega) ?_) | (with_reducible refine bi_rem64 (by omega) ?_) | (with_reducible refine bi_mul64 (by omega) ?_) | (with_reducible refine bi_neg ?_) | (with_reducible refine bi_un_xor32 ?_) | (with_reducible refine bi_add ?_) | (with_reducible refine bi_sub ?_) | (with_reducible refine bi_mul ?_) | (with_reducible refine bi_quo (by decide) ?_) | (with_reducible refine bi_rem (by decide) ?_)))
    refine draw (Below w1.heap.size w1) hdr ?_
    (repeat (first | (with_reducible refine yln und23 ?_) | (with_reducible refine yfd f0 (by decide) ?_) | (with_reducible refine yl1 one3 c0 ?_) | (with_reducible refine ynck ?_) | (with_reducible refine nck ?_) | (with_reducible refine cdT ?_) | (with_reducible refine cdF ?_) | (with_reducible refine gdY ?_) | (with_reducible refine gdFT ?_) | (with_reducible refine gdTF ?_) | (with_reducible refine gdU ?_) | (with_reducible refine gaY ?_) | (with_reducible refine gaFT ?_) | (with_reducible refine gaTF ?_) | (with_reducible refine pickT ?_) | (with_reducible refine pickF ?_) | (with_reducible refine yi_lss_t (by omega) ?_) | (with_reducible refine yi_lss_f (by omega) ?_) | (with_reducible refine yi_add64 (by omega) ?_) | (with_reducible refine yi_sub64 (by omega) ?_) | (with_reducible refine yi_eql_t (by omega) ?_) | (with_reducible refine yi_eql_f (by omega) ?_) | (with_reducible refine yi_neq_t (by omega) ?_) | (with_reducible refine yi_neq_f (by omega) ?_) | (with_reducible refine yi_gtr_t (by omega) ?_) | (with_reducible refine yi_gtr_f (by omega) ?_) | (with_reducible refine yi_leq_t (by omega) ?_) | (with_reducible refine yi_leq_f (by omega) ?_) | (with_reducible refine yi_geq_t (by omega) ?_) | (with_reducible refine yi_geq_f (by omega) ?_) | (with_reducible refine yi_xt0 ?_) | (with_reducible refine yi_xt1 ?_) | (with_reducible refine yi_xt2 ?_) | (with_reducible refine yi_xt3 ?_) | (with_reducible refine yi_T ?_) | (with_reducible refine yi_F ?_) | (with_reducible refine yi_not ?_) | (with_reducible refine yi_and ?_) | (with_reducible refine yi_or ?_) | (with_reducible refine yi_xor ?_) | (with_reducible refine yi_shr (by omega) (by decide) ?_) | (with_reducible refine yi_shl (by omega) (by decide) ?_) | (with_reducible refine yi_quo64 (by omega) ?_) | (with_reducible refine yi_rem64 (by omega) ?_) | (with_reducible refine yi_mul64 (by omega) ?_) | (with_reducible refine yi_neg ?_) | (with_reducible refine yi_un_xor32 ?_) | (with_reducible refine yi_add ?_) | (with_reducible refine yi_sub ?_) | (with_reducible refine yi_mul ?_) | (with_reducible refine yi_quo (by decide) ?_) | (with_reducible refine yi_rem (by decide) ?_)))
    refine act ?_
    refine (Used_spec _ _ g d ⟨s, l, q, xs, hA1.below hdr⟩ hs).mono ?_
    rintro _ w2 ⟨rfl, hb2⟩
    have hb12 := below_then hdr hb2
    refine ⟨_, hb12, fun _ h => h, ?_⟩
    obtain ⟨hs1, hs2, hs3⟩ := hs
    (repeat (first | (with_reducible refine ynck ?_) | (with_reducible refine nck ?_) | (with_reducible refine cdT ?_) | (with_reducible refine cdF ?_) | (with_reducible refine gdY ?_) | (with_reducible refine gdFT ?_) | (with_reducible refine gdTF ?_) | (with_reducible refine gdU ?_) | (with_reducible refine gaY ?_) | (with_reducible refine gaFT ?_) | (with_reducible refine gaTF ?_) | (with_reducible refine pickT ?_) | (with_reducible refine pickF ?_) | (with_reducible refine yi_lss_t (by omega) ?_) | (with_reducible refine yi_lss_f (by omega) ?_) | (with_reducible refine yi_add64 (by omega) ?_) | (with_reducible refine yi_sub64 (by omega) ?_) | (with_reducible refine yi_eql_t (by omega) ?_) | (with_reducible refine yi_eql_f (by omega) ?_) | (with_reducible refine yi_neq_t (by omega) ?_) | (with_reducible refine yi_neq_f (by omega) ?_) | (with_reducible refine yi_gtr_t (by omega) ?_) | (with_reducible refine yi_gtr_f (by omega) ?_) | (with_reducible refine yi_leq_t (by omega) ?_) | (with_reducible refine yi_leq_f (by omega) ?_) | (with_reducible refine yi_geq_t (by omega) ?_) | (with_reducible refine yi_geq_f (by omega) ?_) | (with_reducible refine yi_xt0 ?_) | (with_reducible refine yi_xt1 ?_) | (with_reducible refine yi_xt2 ?_) | (with_reducible refine yi_xt3 ?_) | (with_reducible refine yi_T ?_) | (with_reducible refine yi_F ?_) | (with_reducible refine yi_not ?_) | (with_reducible refine yi_and ?_) | (with_reducible refine yi_or ?_) | (with_reducible refine yi_xor ?_) | (with_reducible refine yi_shr (by omega) (by decide) ?_) | (with_reducible refine yi_shl (by omega) (by decide) ?_) | (with_reducible refine yi_quo64 (by omega) ?_) | (with_reducible refine yi_rem64 (by omega) ?_) | (with_reducible refine yi_mul64 (by omega) ?_) | (with_reducible refine yi_neg ?_) | (with_reducible refine yi_un_xor32 ?_) | (with_reducible refine yi_add ?_) | (with_reducible refine yi_sub ?_) | (with_reducible refine yi_mul ?_) | (with_reducible refine yi_quo (by decide) ?_) | (with_reducible refine yi_rem (by decide) ?_)))
    (first | refine yi_lss_c (fun h => ?_) (fun h => ?_) | refine yi_eql_c (fun h => ?_) (fun h => ?_) | refine yi_neq_c (fun h => ?_) (fun h => ?_) | refine yi_gtr_c (fun h => ?_) (fun h => ?_) | refine yi_leq_c (fun h => ?_) (fun h => ?_) | refine yi_geq_c (fun h => ?_) (fun h => ?_) | refine yi_seql_c (fun h => ?_) (fun h => ?_) | refine yi_sneq_c (fun h => ?_) (fun h => ?_))
    · have e : appendAns d p = 6 := by rw [appendAns, if_neg (by rw [hon]; simp), if_neg (by omega), if_pos (by omega)]
      (repeat (first | (with_reducible refine nck ?_) | (with_reducible refine cdT ?_) | (with_reducible refine cdF ?_) | (with_reducible refine gdY ?_) | (with_reducible refine gdFT ?_) | (with_reducible refine gdTF ?_) | (with_reducible refine gdU ?_) | (with_reducible refine gaY ?_) | (with_reducible refine gaFT ?_) | (with_reducible refine gaTF ?_) | (with_reducible refine pickT ?_) | (with_reducible refine pickF ?_) | (with_reducible refine bi_lss_t (by omega) ?_) | (with_reducible refine bi_lss_f (by omega) ?_) | (with_reducible refine bi_add64 (by omega) ?_) | (with_reducible refine bi_sub64 (by omega) ?_) | (with_reducible refine bi_eql_t (by omega) ?_) | (with_reducible refine bi_eql_f (by omega) ?_) | (with_reducible refine bi_neq_t (by omega) ?_) | (with_reducible refine bi_neq_f (by omega) ?_) | (with_reducible refine bi_gtr_t (by omega) ?_) | (with_reducible refine bi_gtr_f (by omega) ?_) | (with_reducible refine bi_leq_t (by omega) ?_) | (with_reducible refine bi_leq_f (by omega) ?_) | (with_reducible refine bi_geq_t (by omega) ?_) | (with_reducible refine bi_geq_f (by omega) ?_) | (with_reducible refine bi_xt0 ?_) | (with_reducible refine bi_xt1 ?_) | (with_reducible refine bi_xt2 ?_) | (with_reducible refine bi_xt3 ?_) | (with_reducible refine bi_T ?_) | (with_reducible refine bi_F ?_) | (with_reducible refine bi_not ?_) | (with_reducible refine bi_and ?_) | (with_reducible refine bi_or ?_) | (with_reducible refine bi_xor ?_) | (with_reducible refine bi_shr (by omega) (by decide) ?_) | (with_reducible refine bi_shl (by omega) (by decide) ?_) | (with_reducible refine bi_quo64 (by omega) ?_) | (with_reducible refine bi_rem64 (by omega) ?_) | (with_reducible refine bi_mul64 (by omega) ?_) | (with_reducible refine bi_neg ?_) | (with_reducible refine bi_un_xor32 ?_) | (with_reducible refine bi_add ?_) | (with_reducible refine bi_sub ?_) | (with_reducible refine bi_mul ?_) | (with_reducible refine bi_quo (by decide) ?_) | (with_reducible refine bi_rem (by decide) ?_)))
      rw [e]
      exact ⟨rfl, Left.of hD0 (below_then hb1 hb12)⟩
    have e : appendAns d p = 0 := by rw [appendAns, if_neg (by rw [hon]; simp), if_neg (by omega), if_neg (by omega)]
    rw [e, if_pos rfl]
    have hA2 := hA1.below hb12
    have hox2 := hox.below hb12
    have c4 : w2.cell? ⟨g, 4, none⟩ = some q := hA2.blk.cell 4
    have hb2' := below_then hb1 hb12
    (repeat (first | (with_reducible refine fd f4 (by decide) ?_) | (with_reducible refine ld one45 c4 ?_) | (with_reducible refine nck ?_) | (with_reducible refine cdT ?_) | (with_reducible refine cdF ?_) | (with_reducible refine gdY ?_) | (with_reducible refine gdFT ?_) | (with_reducible refine gdTF ?_) | (with_reducible refine gdU ?_) | (with_reducible refine gaY ?_) | (with_reducible refine gaFT ?_) | (with_reducible refine gaTF ?_) | (with_reducible refine pickT ?_) | (with_reducible refine pickF ?_) | (with_reducible refine bi_lss_t (by omega) ?_) | (with_reducible refine bi_lss_f (by omega) ?_) | (with_reducible refine bi_add64 (by omega) ?_) | (with_reducible refine bi_sub64 (by omega) ?_) | (with_reducible refine bi_eql_t (by omega) ?_) | (with_reducible refine bi_eql_f (by omega) ?_) | (with_reducible refine bi_neq_t (by omega) ?_) | (with_reducible refine bi_neq_f (by omega) ?_) | (with_reducible refine bi_gtr_t (by omega) ?_) | (with_reducible refine bi_gtr_f (by omega) ?_) | (with_reducible refine bi_leq_t (by omega) ?_) | (with_reducible refine bi_leq_f (by omega) ?_) | (with_reducible refine bi_geq_t (by omega) ?_) | (with_reducible refine bi_geq_f (by omega) ?_) | (with_reducible refine bi_xt0 ?_) | (with_reducible refine bi_xt1 ?_) | (with_reducible refine bi_xt2 ?_) | (with_reducible refine bi_xt3 ?_) | (with_reducible refine bi_T ?_) | (with_reducible refine bi_F ?_) | (with_reducible refine bi_not ?_) | (with_reducible refine bi_and ?_) | (with_reducible refine bi_or ?_) | (with_reducible refine bi_xor ?_) | (with_reducible refine bi_shr (by omega) (by decide) ?_) | (with_reducible refine bi_shl (by omega) (by decide) ?_) | (with_reducible refine bi_quo64 (by omega) ?_) | (with_reducible refine bi_rem64 (by omega) ?_) | (with_reducible refine bi_mul64 (by omega) ?_) | (with_reducible refine bi_neg ?_) | (with_reducible refine bi_un_xor32 ?_) | (with_reducible refine bi_add ?_) | (with_reducible refine bi_sub ?_) | (with_reducible refine bi_mul ?_) | (with_reducible refine bi_quo (by decide) ?_) | (with_reducible refine bi_rem (by decide) ?_)))
    refine lift (v := .slice (some ⟨w2.heap.size, 0, none⟩) 1 1) (w' := w2.alloc (.cells #[.slice Ax (8 + p.length) cx] 23)) (by kernel_rfl) ?_
    have ha := (Below.refl w2.heap.size w2).alloc (Nat.le_refl _) (.cells #[.slice Ax (8 + p.length) cx] 23)
    have hrs : Rd (w2.alloc (.cells #[.slice Ax (8 + p.length) cx] 23)) (.slice (some ⟨w2.heap.size, 0, none⟩) 1 1) [.slice Ax (8 + p.length) cx] := (Own.new w2 23 [.slice Ax (8 + p.length) cx] (by simp)).rd
    have hA3 := hA2.below ha
    have hox3 := hox2.below ha
    have hb3 := below_then hb2' ha
    generalize w2.alloc (.cells #[.slice Ax (8 + p.length) cx] 23) = w3 at *
    refine apT und45 inf23 (by rfl) (by decide) hA3.q1 hrs (by simp [Value.oneCell']) (by have := hA3.len; simp only [List.length_cons, List.length_nil]; omega) ?_
    intro v4 w4 ho4 hbl4 hT4
    have hs3 := hb3.size
    have hs13 := hb1.size
    -- the colours behind
    have hcc : ∀ k, k < w3.heap.size → col (col c w.heap.size 4) w3.heap.size 3 k = col c w.heap.size 4 k := col_lt _ _ _
    have hA4 := hA3.re hcc
    have hi4 : InC (col (col c w.heap.size 4) w3.heap.size 3) 3 v4 := fun b hb => by
      rcases hbl4 with h | h
      · rw [h] at hb; exact hA4.q2 b hb
      · rw [h] at hb; cases hb; exact col_ge _ _ _ (Nat.le_refl _)
    have hix : InC (col (col c w.heap.size 4) w3.heap.size 3) 4 (.slice Ax (8 + p.length) cx) := hic.re (fun b hb => hox3.ownLt hb) hcc
    generalize hcol : col (col c w.heap.size 4) w3.heap.size 3 = c4' at *
    have hq : ∀ {x : Nat} {v : Value}, x ≠ 3 → InC c4' x v → ∀ b, v.ownBlock = some b → ¬ q.ownBlock = some b := fun hx hv b hb hb' => hx ((hv b hb).symm.trans (hA4.q2 b hb'))
    have hT4' : Turns (D c) w w4 := (Turns.of_below hb3).trans (hT4.mono fun k hk hq' => by
      have h3 := hA4.q2 k hq'
      rcases Nat.lt_or_ge k w.heap.size with h | h
      · refine .inl ?_
        rw [D]
        rw [← hcol, col_lt _ _ _ k hk, col_lt _ _ _ k h] at h3
        omega
      · exact .inr h)
    have hblk4 := hA4.blk.turns hT4 (fun he => by have := hA4.q2 g he; rw [hA4.hue] at this; omega)
    (repeat (first | (with_reducible refine fd f4 (by decide) ?_) | (with_reducible refine nck ?_) | (with_reducible refine cdT ?_) | (with_reducible refine cdF ?_) | (with_reducible refine gdY ?_) | (with_reducible refine gdFT ?_) | (with_reducible refine gdTF ?_) | (with_reducible refine gdU ?_) | (with_reducible refine gaY ?_) | (with_reducible refine gaFT ?_) | (with_reducible refine gaTF ?_) | (with_reducible refine pickT ?_) | (with_reducible refine pickF ?_) | (with_reducible refine bi_lss_t (by omega) ?_) | (with_reducible refine bi_lss_f (by omega) ?_) | (with_reducible refine bi_add64 (by omega) ?_) | (with_reducible refine bi_sub64 (by omega) ?_) | (with_reducible refine bi_eql_t (by omega) ?_) | (with_reducible refine bi_eql_f (by omega) ?_) | (with_reducible refine bi_neq_t (by omega) ?_) | (with_reducible refine bi_neq_f (by omega) ?_) | (with_reducible refine bi_gtr_t (by omega) ?_) | (with_reducible refine bi_gtr_f (by omega) ?_) | (with_reducible refine bi_leq_t (by omega) ?_) | (with_reducible refine bi_leq_f (by omega) ?_) | (with_reducible refine bi_geq_t (by omega) ?_) | (with_reducible refine bi_geq_f (by omega) ?_) | (with_reducible refine bi_xt0 ?_) | (with_reducible refine bi_xt1 ?_) | (with_reducible refine bi_xt2 ?_) | (with_reducible refine bi_xt3 ?_) | (with_reducible refine bi_T ?_) | (with_reducible refine bi_F ?_) | (with_reducible refine bi_not ?_) | (with_reducible refine bi_and ?_) | (with_reducible refine bi_or ?_) | (with_reducible refine bi_xor ?_) | (with_reducible refine bi_shr (by omega) (by decide) ?_) | (with_reducible refine bi_shl (by omega) (by decide) ?_) | (with_reducible refine bi_quo64 (by omega) ?_) | (with_reducible refine bi_rem64 (by omega) ?_) | (with_reducible refine bi_mul64 (by omega) ?_) | (with_reducible refine bi_neg ?_) | (with_reducible refine bi_un_xor32 ?_) | (with_reducible refine bi_add ?_) | (with_reducible refine bi_sub ?_) | (with_reducible refine bi_mul ?_) | (with_reducible refine bi_quo (by decide) ?_) | (with_reducible refine bi_rem (by decide) ?_)))
    obtain ⟨A4, cap4, rfl⟩ := ho4.slice
    refine st sz45 rfl (by rw [hblk4.cell 4]; rfl) (hblk4.frozen 4) ?_
    have hT5 := setT w4 g 4 (Value.slice A4 (xs ++ [Value.slice Ax (8 + p.length) cx]).length cap4)
    have hg4 := hA4.hue
    have go : ∀ {x : Nat} {v : Value}, x ≠ 1 → InC c4' x v → ∀ b, v.ownBlock = some b → ¬ b = g := fun hx hv b hb he => hv.ne hg4 hx (by rw [hb, he])
    refine ⟨rfl, c4', fun k hk => ?_, ⟨s, l, _, xs ++ [Value.slice Ax (8 + p.length) cx], hg4, hblk4.set_ 4 _,
      (hA4.s1.turns hT4 (hA4.s2.imp_right (hq (by omega)))).turns hT5 (hA4.s2.imp_right (go (by omega))), hA4.s2,
      (hA4.l1.turns hT4 (hq (by omega) hA4.l2)).turns hT5 (go (by omega) hA4.l2), hA4.l2,
      ho4.turns hT5 (go (by omega) hi4), hi4, by simp [Dk.appended, hA4.len], ?_⟩, hT4'.setCell (.inl ?_) _⟩
    · rw [← hcol, col_lt _ _ _ k (by omega), col_lt _ _ _ k hk]
    · intro i h1 h2
      simp only [Dk.appended] at h2 ⊢
      rcases Nat.lt_or_ge i xs.length with hi | hi
      · have hi' : i < d.waits.length := by rw [← hA4.len]; exact hi
        rw [List.getElem_append_left hi, List.getElem_append_left hi']
        obtain ⟨e1, e2⟩ := hA4.el i hi hi'
        exact ⟨(e1.turns hT4 (e2.imp_right (hq (by omega)))).turns hT5 (e2.imp_right (go (by omega))), e2⟩
      · have hi' : i = xs.length := by simp at h1; omega
        subst hi'
        have e3 := hA4.len
        have g1 : (xs ++ [Value.slice Ax (8 + p.length) cx])[xs.length] = .slice Ax (8 + p.length) cx := by simp
        have g2 : (d.waits ++ [Frame.wrap p])[xs.length]'h2 = Frame.wrap p := by simp [e3]
        rw [g1, g2]
        have hr : RdB w3 (.slice Ax (8 + p.length) cx) (Frame.wrap p) := hox3.rdB
        exact ⟨(hr.turns hT4 (.inr (hq (by omega) hix))).turns hT5 (.inr (go (by omega) hix)), .inr hix⟩
    · show c g ≠ 0
      rw [hA.hue]; omega
  · (repeat (first | (with_reducible refine fd f1 (by decide) ?_) | (with_reducible refine ld one4 c1 ?_) | (with_reducible refine nck ?_) | (with_reducible refine cdT ?_) | (with_reducible refine cdF ?_) | (with_reducible refine gdY ?_) | (with_reducible refine gdFT ?_) | (with_reducible refine gdTF ?_) | (with_reducible refine gdU ?_) | (with_reducible refine gaY ?_) | (with_reducible refine gaFT ?_) | (with_reducible refine gaTF ?_) | (with_reducible refine pickT ?_) | (with_reducible refine pickF ?_) | (with_reducible refine bi_lss_t (by omega) ?_) | (with_reducible refine bi_lss_f (by omega) ?_) | (with_reducible refine bi_add64 (by omega) ?_) | (with_reducible refine bi_sub64 (by omega) ?_) | (with_reducible refine bi_eql_t (by omega) ?_) | (with_reducible refine bi_eql_f (by omega) ?_) | (with_reducible refine bi_neq_t (by omega) ?_) | (with_reducible refine bi_neq_f (by omega) ?_) | (with_reducible refine bi_gtr_t (by omega) ?_) | (with_reducible refine bi_gtr_f (by omega) ?_) | (with_reducible refine bi_leq_t (by omega) ?_) | (with_reducible refine bi_leq_f (by omega) ?_) | (with_reducible refine bi_geq_t (by omega) ?_) | (with_reducible refine bi_geq_f (by omega) ?_) | (with_reducible refine bi_xt0 ?_) | (with_reducible refine bi_xt1 ?_) | (with_reducible refine bi_xt2 ?_) | (with_reducible refine bi_xt3 ?_) | (with_reducible refine bi_T ?_) | (with_reducible refine bi_F ?_) | (with_reducible refine bi_not ?_) | (with_reducible refine bi_and ?_) | (with_reducible refine bi_or ?_) | (with_reducible refine bi_xor ?_) | (with_reducible refine bi_shr (by omega) (by decide) ?_) | (with_reducible refine bi_shl (by omega) (by decide) ?_) | (with_reducible refine bi_quo64 (by omega) ?_) | (with_reducible refine bi_rem64 (by omega) ?_) | (with_reducible refine bi_mul64 (by omega) ?_) | (with_reducible refine bi_neg ?_) | (with_reducible refine bi_un_xor32 ?_) | (with_reducible refine bi_add ?_) | (with_reducible refine bi_sub ?_) | (with_reducible refine bi_mul ?_) | (with_reducible refine bi_quo (by decide) ?_) | (with_reducible refine bi_rem (by decide) ?_)))
    have e : appendAns d p = 15 := by rw [appendAns, if_pos hon]
    rw [e]
    exact ⟨rfl, Left.of hD0 (Below.refl _ _)⟩
end Go.Proofs.Ytgaamfdhjpkicaa.E
