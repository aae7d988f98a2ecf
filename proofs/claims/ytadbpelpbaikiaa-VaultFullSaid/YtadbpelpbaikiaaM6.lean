import Derived.Test.YtadbpelpbaikiaaM5
import Derived.Test.YtadbpelpbaikiaaM3
import Derived.Lib.SliceRun
import Derived.Lib.MinMax
import Derived.Deep.Matrix
namespace Go.Proofs.Ytadbpelpbaikiaa.E
open Go Go.RowKit
set_option linter.unusedSimpArgs false
set_option linter.unusedVariables false

theorem und45 : Try.prog.underlying 28 = some (.slice 22) := by kernel_rfl
theorem sz23 : (Try.prog.info? 22).map (·.size) = some 1 := by kernel_rfl
theorem one23 : oneB Try.prog 22 = true := by kernel_rfl
theorem tot_cast (a b : Nat) : ((a : Int) + (b : Int)) = ((a + b : Nat) : Int) := by omega

theorem seal_spec (v u : Value) (a b : List UInt8) (w : World) (hv : RdB w v a) (hu : RdB w u b) :
    CallP Try.prog 40 #[v, u] (fun r w' => r = .int .u32 ((Crc.of (a ++ b)).toNat : Int) ∧ Below w.heap.size w w') w := by
  refine ⟨S40.calls _ _ _ _ ?_⟩
  unfold S40
  refine (Of_spec _ _ _ hv).mono ?_
  rintro _ w1 ⟨rfl, hb1⟩
  refine (More_spec _ _ _ _ (hu.below hb1)).mono ?_
  rintro _ w2 ⟨rfl, hb2⟩
  exact ⟨by rw [Frame.seal_eq], below_then hb1 hb2⟩

theorem Grow_spec (n : Nat) (hn : n ≤ 1000000000) (w : World) : CallP Try.prog 42 #[.slice none 0 0, .int .i64 n] (fun r w' => Own 5 w' r [] ∧ Fresh w.heap.size r ∧ Below w.heap.size w w') w := by
  refine ⟨S42.calls _ _ _ _ ?_⟩
  unfold S42
  refine JoinP.plain ?_
  (repeat with_reducible first|refine z_c ?_|refine z_n (by omega) ?_)
  refine JoinP.plain ?_
  refine cpx und23 ?_
  refine ln und23 ?_
  (repeat with_reducible first|refine z_p (by omega) ?_)
  (first | refine bi_lss_c (fun h => ?_) (fun h => ?_) | refine bi_eql_c (fun h => ?_) (fun h => ?_) | refine bi_neq_c (fun h => ?_) (fun h => ?_) | refine bi_gtr_c (fun h => ?_) (fun h => ?_) | refine bi_leq_c (fun h => ?_) (fun h => ?_) | refine bi_geq_c (fun h => ?_) (fun h => ?_) | refine bi_seql_c (fun h => ?_) (fun h => ?_) | refine bi_sneq_c (fun h => ?_) (fun h => ?_))
  · (repeat with_reducible first|refine z_b ?_)
    refine cpx und23 ?_
    refine ofPR (pr_cut und23 sz5 .no (.at _ _) .no (Nat.le_refl _) (fun h => by cases h) (Nat.le_refl _) (Nat.le_refl _) (.inl rfl)) ?_
    rw [show ((n : Int) - (((0 : Nat) : Int) - ((0 : Nat) : Int))) = (n : Int) from by omega]
    obtain ⟨i, hi, hzz⟩ := Option.map_eq_some_iff.1 inf5
    simp only [Prod.mk.injEq] at hzz
    obtain ⟨hz0, hz1, hz2⟩ := hzz
    have hr := Lib.run_append_nil_zeros (P := Try.prog) w 22 3 22 5 i (.int .u8 0) .i64 .i64 und23 und3 hi hz0 n (by omega) (by omega) (by omega) (by rw [hz2]; omega)
    refine nextV (v := .slice (some ⟨w.heap.size, 0, none⟩) n (grownCap w n 0 5)) (w' := w.drew.alloc (.cells (Builtin.zeroCells (Value.int .u8 0).cells n ++ Builtin.zeroCells (Value.int .u8 0).cells (grownCap w n 0 5 - n)) 5)) ?_ ?_
    · simp only [builtin] at hr ⊢
      rw [show sliced none 0 0 0 1 = .slice none 0 0 from rfl]
      simp [hr]
    have hge := grownCap_ge w n 0 5
    have hle := grownCap_le_maxLen w n 0 5 (by simp only [maxLen]; omega)
    refine ln und23 ?_
    refine ofPR (pr_cut und23 sz5 .no (.at _ _) .no (Nat.zero_le _) (fun h => by cases h) (Nat.zero_le _) (Nat.le_refl _) (.inl rfl)) ?_
    have hbl := Blk.new w.drew 5 (Builtin.zeroCells (Value.int .u8 0).cells n ++ Builtin.zeroCells (Value.int .u8 0).cells (grownCap w n 0 5 - n))
    refine ⟨?_, ?_, ?_⟩
    · rw [sliced, show (if grownCap w n 0 5 = 0 then (some (⟨w.heap.size, 0, none⟩ : Addr)) else (some (⟨w.heap.size, 0, none⟩ : Addr)).map (·.add (0 * 1))) = some ⟨w.heap.size, 0, none⟩ from by split <;> simp [Addr.add]]
      refine Own.of_blk hbl rfl (Nat.zero_le _) (by simp only [maxLen] at hle; omega) ?_ rfl
      simp [Builtin.zeroCells, Value.cells]
      omega
    · intro k hk
      simp only [List.headD_cons] at hk
      rw [sliced, show (if grownCap w n 0 5 = 0 then (some (⟨w.heap.size, 0, none⟩ : Addr)) else (some (⟨w.heap.size, 0, none⟩ : Addr)).map (·.add (0 * 1))) = some ⟨w.heap.size, 0, none⟩ from by split <;> simp [Addr.add]] at hk
      cases hk
      exact Nat.le_refl _
    · exact (Below.refl _ w).drew.alloc (Nat.le_refl _) _
  · (repeat with_reducible first|refine z_c ?_)
    exact ⟨Own.nil 5 w, Fresh.nil _, Below.refl _ w⟩

theorem Concat_spec (v : Value) (bss : List (List UInt8)) (w : World) (hv : RdSS w v bss) (hl : bss.length ≤ 1000000) (ht : bss.flatten.length ≤ 1000000000) :
    CallP Try.prog 38 #[v] (fun r w' => Own 5 w' r (bss.flatten.map u8) ∧ Fresh w.heap.size r ∧ Below w.heap.size w w') w := by
  obtain ⟨A, c, rfl, hc1, hc2⟩ := hv.slice
  refine ⟨S38.calls _ _ _ ?_⟩
  unfold S38
  refine ln und45 ?_
  refine LoopP.inv2 (fun x i w' => ∃ k : Nat, k ≤ bss.length ∧ i = .int .i64 k ∧ x = .int .i64 ((bss.take k).flatten.length : Nat) ∧ w = w') (fun _ i _ => bss.length - (intOf i).toNat) ⟨0, by omega, rfl, rfl, rfl⟩ ?_
  rintro _ _ _ ⟨k, hk, rfl, rfl, rfl⟩ J hJ
  dsimp only [List.headD_cons, List.tail_cons]
  have hk1 := Frame.flat_le bss k
  skip
  (first | refine bi_lss_c (fun h => ?_) (fun h => ?_) | refine bi_eql_c (fun h => ?_) (fun h => ?_) | refine bi_neq_c (fun h => ?_) (fun h => ?_) | refine bi_gtr_c (fun h => ?_) (fun h => ?_) | refine bi_leq_c (fun h => ?_) (fun h => ?_) | refine bi_geq_c (fun h => ?_) (fun h => ?_) | refine bi_seql_c (fun h => ?_) (fun h => ?_) | refine bi_sneq_c (fun h => ?_) (fun h => ?_))
  · have hk' : k < bss.length := by omega
    have hk2 := Frame.flat_le bss (k + 1)
    rw [Frame.flat_take bss k hk', List.length_append] at hk2
    obtain ⟨a, A', n', c', rfl, hca, hrb⟩ := hv.at k hk'
    obtain ⟨A2, c2, he, _⟩ := hrb.slice
    cases he
    (repeat with_reducible first|refine z_b ?_)
    refine JoinP.plain ?_
    (repeat with_reducible first|refine ix1 und45 sz23 hk' ?_|refine ld one23 hca ?_|refine ln und23 ?_|refine z_c ?_|refine z_n (by omega) ?_|refine z_o (by omega) ?_)
    dsimp only [List.headD_cons, List.tail_cons]
    skip
    refine hJ _ _ _ ⟨k + 1, by omega, by simp, ?_, rfl⟩ (by simp [intOf]; omega)
    rw [Frame.flat_take bss k hk', List.length_append, tot_cast]
  · have hkl : k = bss.length := by omega
    subst hkl
    (repeat with_reducible first|refine z_c ?_)
    rw [List.take_length]
    refine (Grow_spec _ ht w).mono ?_
    rintro v1 w1 ⟨ho1, hf1, hb1⟩
    refine ln und45 ?_
    refine LoopP.inv2 (fun x i w' => ∃ k : Nat, k ≤ bss.length ∧ i = .int .i64 k ∧ Own 5 w' x ((bss.take k).flatten.map u8) ∧ Fresh w.heap.size x ∧ Below w.heap.size w w') (fun _ i _ => bss.length - (intOf i).toNat) ⟨0, by omega, rfl, by simpa using ho1, hf1, hb1⟩ ?_
    rintro x _ w2 ⟨k, hk, rfl, ho2, hf2, hb2⟩ J' hJ'
    dsimp only [List.headD_cons, List.tail_cons]
    skip
    (first | refine bi_lss_c (fun h => ?_) (fun h => ?_) | refine bi_eql_c (fun h => ?_) (fun h => ?_) | refine bi_neq_c (fun h => ?_) (fun h => ?_) | refine bi_gtr_c (fun h => ?_) (fun h => ?_) | refine bi_leq_c (fun h => ?_) (fun h => ?_) | refine bi_geq_c (fun h => ?_) (fun h => ?_) | refine bi_seql_c (fun h => ?_) (fun h => ?_) | refine bi_sneq_c (fun h => ?_) (fun h => ?_))
    · have hk' : k < bss.length := by omega
      have hk2 := Frame.flat_le bss (k + 1)
      rw [Frame.flat_take bss k hk', List.length_append] at hk2
      obtain ⟨a, A', n', c', rfl, hca, hrb⟩ := (hv.below hb2).at k hk'
      (repeat with_reducible first|refine ix1 und45 sz23 hk' ?_|refine ld one23 hca ?_|refine z_b ?_)
      refine apF w.heap.size und23 inf5 (by rfl) (by decide) ho2 hf2 hb2.size hrb (u8_one _) (by simp only [List.length_map]; omega) ?_
      intro v3 w3 ho3 hf3 hb3 _
      (repeat with_reducible first|refine z_o (by omega) ?_)
      refine hJ' _ _ _ ⟨k + 1, by omega, by simp, ?_, hf3, hb2.trans hb3⟩ (by simp [intOf]; omega)
      rw [Frame.flat_take bss k hk', List.map_append]
      exact ho3
    · have hkl : k = bss.length := by omega
      subst hkl
      (repeat with_reducible first|refine z_c ?_)
      rw [List.take_length] at ho2
      exact ⟨ho2, hf2, hb2⟩

theorem Wrap_spec (v : Value) (bs : List UInt8) (w : World) (hv : RdB w v bs) :
    CallP Try.prog 37 #[v] (fun r w' => ∃ x, r = .tuple #[x, .int .i64 (Frame.wrapAns bs).2] ∧ Own 5 w' x ((Frame.wrapAns bs).1.map u8) ∧ Fresh w.heap.size x ∧ Below w.heap.size w w') w := by
  obtain ⟨A, c, rfl, hc1, hc2, _⟩ := hv.slice
  refine ⟨S37.calls _ _ _ ?_⟩
  unfold S37
  refine ln und23 ?_
  (first | refine bi_lss_c (fun h => ?_) (fun h => ?_) | refine bi_eql_c (fun h => ?_) (fun h => ?_) | refine bi_neq_c (fun h => ?_) (fun h => ?_) | refine bi_gtr_c (fun h => ?_) (fun h => ?_) | refine bi_leq_c (fun h => ?_) (fun h => ?_) | refine bi_geq_c (fun h => ?_) (fun h => ?_) | refine bi_seql_c (fun h => ?_) (fun h => ?_) | refine bi_sneq_c (fun h => ?_) (fun h => ?_))
  · (repeat with_reducible first|refine z_b ?_)
    rw [Frame.wrapAns, if_neg (by omega)]
    exact ⟨_, rfl, Own.nil 5 w, Fresh.nil _, Below.refl _ w⟩
  (repeat with_reducible first|refine z_c ?_)
  refine ln und23 ?_
  refine cv und3 und22 ?_
  rw [IntWalk.u32_in _ (by omega)]
  refine (Put_spec bs.length (by omega) w).mono ?_
  rintro v1 w1 ⟨ho1, hf1, hb1⟩
  refine (seal_spec _ _ _ bs w1 ho1.rdB (hv.below hb1)).mono ?_
  rintro _ w2 ⟨rfl, hb2⟩
  have hb2' := below_then hb1 hb2
  refine (Put_spec _ (BitVec.isLt _) w2).mono ?_
  rintro v3 w3 ⟨ho3, hf3, hb3⟩
  have hb3' := below_then hb2' hb3
  have ho1' := (ho1.below hb2).below hb3
  obtain ⟨A1, c1, rfl⟩ := ho1.slice
  obtain ⟨A3, c3, rfl⟩ := ho3.slice
  refine lift (v := .slice (some ⟨w3.heap.size, 0, none⟩) 3 3) (w' := w3.alloc (.cells #[.slice A1 4 c1, .slice A3 4 c3, .slice A bs.length c] 22)) (by kernel_rfl) ?_
  have hb4 := below_al hb3' (.cells #[.slice A1 4 c1, .slice A3 4 c3, .slice A bs.length c] 22)
  have ha : Below w3.heap.size w3 (w3.alloc (.cells #[.slice A1 4 c1, .slice A3 4 c3, .slice A bs.length c] 22)) := (Below.refl _ _).alloc (Nat.le_refl _) _
  have hss : RdSS (w3.alloc (.cells #[.slice A1 4 c1, .slice A3 4 c3, .slice A bs.length c] 22)) (.slice (some ⟨w3.heap.size, 0, none⟩) 3 3) [Be4.put bs.length, Be4.put (Crc.of (Be4.put bs.length ++ bs)).toNat, bs] := by
    refine RdSS.of (cs := [.slice A1 4 c1, .slice A3 4 c3, .slice A bs.length c]) (Own.new w3 22 _ (by simp)).rd rfl ?_
    intro i h1 h2
    match i, h1 with
    | 0, _ => exact ho1'.rdB.below ha
    | 1, _ => exact ho3.rdB.below ha
    | 2, _ => exact hv.below hb4
  refine (Concat_spec _ _ _ hss (by simp) (by simp [Be4.put_length]; omega)).mono ?_
  rintro v5 w5 ⟨ho5, hf5, hb5⟩
  rw [Frame.wrapAns, if_pos (by omega)]
  refine ⟨v5, rfl, ?_, fun k hk => Nat.le_trans hb4.size (hf5 k hk), below_then hb4 hb5⟩
  simpa [Frame.wrap] using ho5

end Go.Proofs.Ytadbpelpbaikiaa.E
namespace Go.Proofs.Ytadbpelpbaikiaa.E
open Go Go.RowKit
set_option linter.unusedSimpArgs false
set_option linter.unusedVariables false

theorem getAns_nat (bs : List UInt8) (j : Nat) (h : j + 4 ≤ bs.length) : getAns bs (j : Int) = (Be4.get ((bs.drop j).take 4), 0) := by
  rw [getAns, if_neg (by omega), if_neg (by omega), Int.toNat_natCast]
theorem view_spec (v : Value) (bs : List UInt8) (w : World) (hv : RdB w v bs) (hl : bs.length ≤ 1000000) :
    CallP Try.prog 36 #[v] (fun r w' => ∃ x, r = .tuple #[x, .int .i64 (Frame.view bs).2.1, .int .i64 (Frame.view bs).2.2] ∧ RdB w' x (Frame.view bs).1 ∧ Below w.heap.size w w') w := by
  have hnil : ∀ w, RdB w (.slice none 0 0) [] := fun w => (Own.nil 5 w).rd
  obtain ⟨A, c, rfl, hc1, hc2, _⟩ := hv.slice
  refine ⟨S36.calls _ _ _ ?_⟩
  unfold S36
  refine ln und23 ?_
  (first | refine bi_lss_c (fun h => ?_) (fun h => ?_) | refine bi_eql_c (fun h => ?_) (fun h => ?_) | refine bi_neq_c (fun h => ?_) (fun h => ?_) | refine bi_gtr_c (fun h => ?_) (fun h => ?_) | refine bi_leq_c (fun h => ?_) (fun h => ?_) | refine bi_geq_c (fun h => ?_) (fun h => ?_) | refine bi_seql_c (fun h => ?_) (fun h => ?_) | refine bi_sneq_c (fun h => ?_) (fun h => ?_))
  · (repeat with_reducible first|refine z_b ?_)
    rw [Frame.view, if_pos (by omega)]
    exact ⟨_, rfl, hnil w, Below.refl _ w⟩
  (repeat with_reducible first|refine z_c ?_)
  refine (Get_spec _ bs 0 w hv (by omega)).mono ?_
  rintro _ _ ⟨rfl, rfl⟩
  rw [show getAns bs 0 = (Frame.size bs, 0) from getAns_nat bs 0 (by omega)]
  (repeat with_reducible first|refine z_A ?_|refine z_B ?_)
  (first | refine bi_lss_c (fun h => ?_) (fun h => ?_) | refine bi_eql_c (fun h => ?_) (fun h => ?_) | refine bi_neq_c (fun h => ?_) (fun h => ?_) | refine bi_gtr_c (fun h => ?_) (fun h => ?_) | refine bi_leq_c (fun h => ?_) (fun h => ?_) | refine bi_geq_c (fun h => ?_) (fun h => ?_) | refine bi_seql_c (fun h => ?_) (fun h => ?_) | refine bi_sneq_c (fun h => ?_) (fun h => ?_))
  · (repeat with_reducible first|refine z_b ?_)
    rw [Frame.view, if_neg (by omega), if_pos (by omega)]
    exact ⟨_, rfl, hnil w, Below.refl _ w⟩
  (repeat with_reducible first|refine z_c ?_)
  refine cv und22 und3 ?_
  rw [IntWalk.i64_in _ (by omega)]
  (repeat with_reducible first|refine z_o (by omega) ?_)
  rw [show ((8 : Int) + (Frame.size bs : Int)) = ((8 + Frame.size bs : Nat) : Int) from by omega]
  refine ln und23 ?_
  (first | refine bi_lss_c (fun h => ?_) (fun h => ?_) | refine bi_eql_c (fun h => ?_) (fun h => ?_) | refine bi_neq_c (fun h => ?_) (fun h => ?_) | refine bi_gtr_c (fun h => ?_) (fun h => ?_) | refine bi_leq_c (fun h => ?_) (fun h => ?_) | refine bi_geq_c (fun h => ?_) (fun h => ?_) | refine bi_seql_c (fun h => ?_) (fun h => ?_) | refine bi_sneq_c (fun h => ?_) (fun h => ?_))
  · (repeat with_reducible first|refine z_b ?_)
    rw [Frame.view, if_neg (by omega), if_neg (by omega), if_pos (by omega)]
    exact ⟨_, rfl, hnil w, Below.refl _ w⟩
  have hfit : 8 + Frame.size bs ≤ bs.length := by omega
  (repeat with_reducible first|refine z_c ?_)
  refine (Get_spec _ bs 4 w hv (by omega)).mono ?_
  rintro _ _ ⟨rfl, rfl⟩
  rw [show getAns bs 4 = (Frame.told bs, 0) from getAns_nat bs 4 (by omega)]
  (repeat with_reducible first|refine z_A ?_|refine z_B ?_)
  refine draw (Below w.heap.size w) (Below.refl _ w).drew ?_
  refine yctB und23 sz5 rfl hc1 (fun w' h => hv.below h) (k := 4) .no (.at _ _) (by omega) (by omega) ?_
  intro v1 hr1
  refine yctB und23 sz5 rfl hc1 (fun w' h => hv.below h) (l := 8) (.at _ _) (.at _ _) (by omega) hfit ?_
  intro v2 hr2
  have hb0 : Below w.heap.size w w.drew := (Below.refl _ w).drew
  refine act ?_
  refine (seal_spec _ _ _ _ w.drew (hr1 _ hb0) (hr2 _ hb0)).mono ?_
  rintro _ w1 ⟨rfl, hb1⟩
  have hb1' := below_then hb0 hb1
  have hp : (bs.take (8 + Frame.size bs)).drop 8 = Frame.part bs := by rw [List.drop_take]; congr 1; omega
  rw [List.drop_zero, hp]
  refine ⟨Below w1.heap.size w1, Below.refl _ _, fun w' h => below_then hb1' h, ?_⟩
  (first | refine yi_lss_c (fun h => ?_) (fun h => ?_) | refine yi_eql_c (fun h => ?_) (fun h => ?_) | refine yi_neq_c (fun h => ?_) (fun h => ?_) | refine yi_gtr_c (fun h => ?_) (fun h => ?_) | refine yi_leq_c (fun h => ?_) (fun h => ?_) | refine yi_geq_c (fun h => ?_) (fun h => ?_) | refine yi_seql_c (fun h => ?_) (fun h => ?_) | refine yi_sneq_c (fun h => ?_) (fun h => ?_))
  · (repeat with_reducible first|refine z_b ?_)
    rw [Frame.view, if_neg (by omega), if_neg (by omega), if_neg (by omega), if_pos (fun he => h (by rw [he]; rfl))]
    exact ⟨_, rfl, hnil _, hb1'⟩
  (repeat with_reducible first|refine z_c ?_)
  refine ctB und23 sz5 (hv.below hb1') (l := 8) (.at _ _) (.at _ _) (by omega) hfit ?_
  intro v3 hr3
  rw [hp] at hr3
  rw [Frame.view, if_neg (by omega), if_neg (by omega), if_neg (by omega), if_neg (fun hn => hn (by have : (Frame.told bs : Int) = (Frame.real bs : Int) := h; omega))]
  exact ⟨_, rfl, hr3, hb1'⟩

end Go.Proofs.Ytadbpelpbaikiaa.E
namespace Go.Proofs.Ytadbpelpbaikiaa.E
open Go Go.RowKit
set_option linter.unusedSimpArgs false
set_option linter.unusedVariables false

theorem one3 : oneB Try.prog 3 = true := by kernel_rfl
end Go.Proofs.Ytadbpelpbaikiaa.E
namespace Go.Proofs.Ytadbpelpbaikiaa.E
open Go Go.RowKit

theorem Rd.grown {w w' : World} {u : Value} {cs : List Value} {row : Option Nat} (h : Rd w u cs) (hg : w.grownBy w' row) (hne : cs = [] ∨ u.ownBlock ≠ row) : Rd w' u cs := by
  obtain ⟨A, c, rfl, h1, h2, h3⟩ := h
  refine ⟨A, c, rfl, h1, h2, fun i x hx => ?_⟩
  obtain ⟨a, ha, hc⟩ := h3 i x hx
  refine ⟨a, ha, hg.cell hc ?_⟩
  rcases hne with h | h
  · rw [h] at hx; simp at hx
  · subst ha
    have e : (a.add i).block = a.block := by unfold Addr.add; split <;> rfl
    rw [e]
    exact h
theorem Rd.block_lt {w : World} {u : Value} {cs : List Value} (h : Rd w u cs) (h0 : cs ≠ []) : ∃ k, u.ownBlock = some k ∧ k < w.heap.size := by
  obtain ⟨A, c, rfl, h1, h2, h3⟩ := h
  cases cs with
  | nil => exact absurd rfl h0
  | cons x r =>
    obtain ⟨a, rfl, hc⟩ := h3 0 x rfl
    rw [Addr.add_zero'] at hc
    exact ⟨a.block, rfl, World.block_lt_of_cell? w a hc⟩
end Go.Proofs.Ytadbpelpbaikiaa.E
namespace Go.Proofs.Ytadbpelpbaikiaa.E
open Go Go.RowKit
set_option linter.unusedSimpArgs false
set_option linter.unusedVariables false

theorem inf23 : (Try.prog.info? 22).map (fun i => (i.zero, i.size, i.bytes)) = some (some (.slice none 0 0), 1, 24) := by kernel_rfl
theorem pr_snil {P : Program} {t e : TypeId} {x y : Operand} (h : P.underlying t = some (.slice e)) {A : Option Addr} {n c n' c' : Nat} : PR P (binS .eql t x y (.slice A n c) (.slice none n' c')) (.bool A.isNone) := by
  intro w
  simp only [binS, eqGuard_at_slice, Sem.run_bind, Sem.run_pure, Result.andThen_ok]
  exact Lib.run_eql_slice_nil w t e A n c n' c' h

end Go.Proofs.Ytadbpelpbaikiaa.E
namespace Go.Proofs.Ytadbpelpbaikiaa.E
open Go Go.RowKit
set_option linter.unusedSimpArgs false
set_option linter.unusedVariables false

end Go.Proofs.Ytadbpelpbaikiaa.E
namespace Go.Proofs.Ytadbpelpbaikiaa.Frame
def cat (l : List (List UInt8)) : List UInt8 := (l.map wrap).flatten
theorem cat_append (a b : List (List UInt8)) : cat (a ++ b) = cat a ++ cat b := by simp [cat]
theorem cat_length (l : List (List UInt8)) : (cat l).length = 8 * l.length + l.flatten.length := by
  induction l with
  | nil => rfl
  | cons p l ih =>
    have : cat (p :: l) = wrap p ++ cat l := by simp [cat]
    rw [this, List.length_append, ih, wrap_length, List.flatten_cons, List.length_append, List.length_cons]
    omega
theorem wrap_take4 (p r : List UInt8) : (wrap p ++ r).take 4 = Be4.put p.length := by
  rw [wrap, List.append_assoc, List.append_assoc]
  exact List.take_left' (Be4.put_length _)
theorem size_wrap (p r : List UInt8) (h : p.length ≤ 65536) : size (wrap p ++ r) = p.length := by
  rw [size, wrap_take4, Be4.get_put _ (by omega)]
theorem drop8 (p r : List UInt8) : (wrap p ++ r).drop 8 = p ++ r := by
  rw [wrap, List.append_assoc]
  exact List.drop_left' (by simp [Be4.put_length])
theorem told_wrap (p r : List UInt8) : told (wrap p ++ r) = (Crc.of (Be4.put p.length ++ p)).toNat := by
  have : (wrap p ++ r).drop 4 = Be4.put (Crc.of (Be4.put p.length ++ p)).toNat ++ (p ++ r) := by
    rw [wrap, List.append_assoc, List.append_assoc]
    exact List.drop_left' (Be4.put_length _)
  rw [told, this, List.take_left' (Be4.put_length _), Be4.get_put _ (BitVec.isLt _)]
theorem part_wrap (p r : List UInt8) (h : p.length ≤ 65536) : part (wrap p ++ r) = p := by
  rw [part, size_wrap p r h, drop8, List.take_left' rfl]
theorem view_wrap (p r : List UInt8) (h : p.length ≤ 65536) : view (wrap p ++ r) = (p, 8 + p.length, 0) := by
  have hl : (wrap p ++ r).length = 8 + p.length + r.length := by rw [List.length_append, wrap_length]
  rw [view, size_wrap p r h, if_neg (by omega), if_neg (by omega), if_neg (by omega), if_neg, part_wrap p r h]
  rw [told_wrap, real, part_wrap p r h, wrap_take4]
  simp
theorem view_short (bs : List UInt8) (h : bs.length < 8) : (view bs).2.2 ≠ 0 := by
  rw [view, if_pos h]; simp
theorem view_cut (p : List UInt8) (h : p.length ≤ 65536) (m : Nat) (hm : m < 8 + p.length) : (view ((wrap p).take m)).2.2 ≠ 0 := by
  have hl : ((wrap p).take m).length = m := by rw [List.length_take, wrap_length]; omega
  by_cases h8 : m < 8
  · exact view_short _ (by omega)
  have hs : size ((wrap p).take m) = p.length := by
    rw [size, List.take_take, show min 4 m = 4 from by omega]
    have := size_wrap p [] h
    rw [List.append_nil, size] at this
    exact this
  rw [view, if_neg (by omega), hs, if_neg (by omega), if_pos (by omega)]
  simp
theorem scan_cat (l : List (List UInt8)) (r : List UInt8) (h : ∀ p ∈ l, p.length ≤ 65536) (hr : (view r).2.2 ≠ 0) : scan (cat l ++ r) = (l, (cat l).length) := by
  induction l with
  | nil => simpa [cat] using scan_end r hr
  | cons p l ih =>
    have e : cat (p :: l) ++ r = wrap p ++ (cat l ++ r) := by simp [cat]
    have hv := view_wrap p (cat l ++ r) (h p (by simp))
    have hd : (wrap p ++ (cat l ++ r)).drop (8 + p.length) = cat l ++ r := List.drop_left' (wrap_length p)
    have hlen : (cat (p :: l)).length = 8 + p.length + (cat l).length := by rw [show cat (p :: l) = wrap p ++ cat l from by simp [cat], List.length_append, wrap_length]
    rw [e, scan_ok _ (by rw [hv]), hv, hd, ih (fun q hq => h q (by simp [hq])), hlen]
end Go.Proofs.Ytadbpelpbaikiaa.Frame
namespace Go.Proofs.Ytadbpelpbaikiaa.E
open Go Go.RowKit

end Go.Proofs.Ytadbpelpbaikiaa.E
namespace Go.Proofs.Ytadbpelpbaikiaa.E
open Go Go.RowKit
set_option linter.unusedSimpArgs false
set_option linter.unusedVariables false

theorem sz3 : (Try.prog.info? 3).map (·.size) = some 1 := by kernel_rfl
end Go.Proofs.Ytadbpelpbaikiaa.E
