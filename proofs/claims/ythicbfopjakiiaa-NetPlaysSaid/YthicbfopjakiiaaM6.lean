import Derived.Test.YthicbfopjakiiaaM5
import Derived.IntWalk
import Derived.Test.YthicbfopjakiiaaM3
namespace Go.Proofs.Ythicbfopjakiiaa.E
open Go Go.RowKit
set_option linter.unusedSimpArgs false
set_option linter.unusedVariables false

end Go.Proofs.Ythicbfopjakiiaa.E
namespace Go.Proofs.Ythicbfopjakiiaa.Be4
def put (n : Nat) : List UInt8 := [UInt8.ofNat (n / 16777216), UInt8.ofNat (n / 65536), UInt8.ofNat (n / 256), UInt8.ofNat n]
def get (l : List UInt8) : Nat := l.foldl (fun n c => n * 256 + c.toNat) 0
theorem wrap_u8 (n : Nat) : IntKind.u8.wrap (n : Int) = ((UInt8.ofNat n).toNat : Int) := by
  rw [UInt8.toNat_ofNat']
  simp [IntKind.wrap, IntKind.signed, IntKind.bits]
theorem or_u32 (a b : BitVec 32) : Go.bits .or .u32 (a.toNat : Int) (b.toNat : Int) = ((a ||| b).toNat : Int) := by
  show IntKind.u32.wrap _ = _
  have h : ∀ x : BitVec 32, IntKind.u32.wrap (x.toNat : Int) = x.toNat := fun x => IntWalk.u32_in _ (by have := x.isLt; omega)
  have h2 : ∀ x : BitVec 32, BitVec.ofInt 32 (x.toNat : Int) = x := fun x => by simp
  simp only [IntKind.bits, h2, h]
  rfl
/-- n << 8 | c -/
theorem step (n : Nat) (c : UInt8) (h : n < 16777216) : Go.bits .or .u32 (IntKind.u32.wrap ((n : Int) * 2 ^ (8 : Int).toNat)) (c.toNat : Int) = ((n * 256 + c.toNat : Nat) : Int) := by
  have hc := c.toNat_lt
  rw [show ((n : Int) * 2 ^ (8 : Int).toNat) = ((n * 256 : Nat) : Int) from by
    have : (2 : Int) ^ (8 : Int).toNat = 256 := by decide
    rw [this]; omega]
  rw [IntWalk.u32_in _ (by omega)]
  have e1 : ((n * 256 : Nat) : Int) = ((BitVec.ofNat 32 (n * 256)).toNat : Int) := by rw [BitVec.toNat_ofNat, Nat.mod_eq_of_lt (by omega)]
  have e2 : (c.toNat : Int) = ((BitVec.ofNat 32 c.toNat).toNat : Int) := by rw [BitVec.toNat_ofNat, Nat.mod_eq_of_lt (by omega)]
  rw [e1, e2, or_u32, BitVec.toNat_or, BitVec.toNat_ofNat, BitVec.toNat_ofNat, Nat.mod_eq_of_lt (by omega), Nat.mod_eq_of_lt (by omega)]
  rw [show n * 256 = n <<< 8 from by rw [Nat.shiftLeft_eq], ← Nat.shiftLeft_add_eq_or_of_lt (by omega)]
end Go.Proofs.Ythicbfopjakiiaa.Be4
namespace Go.Proofs.Ythicbfopjakiiaa.E
open Go Go.RowKit
set_option linter.unusedSimpArgs false
set_option linter.unusedVariables false

theorem und37 : Try.prog.underlying 37 = some (.slice 9) := by kernel_rfl
theorem sz9 : (Try.prog.info? 9).map (·.size) = some 1 := by kernel_rfl
theorem g0 : fofs Try.prog 101 0 = some (0, 1) := by kernel_rfl
theorem g1 : fofs Try.prog 101 1 = some (1, 1) := by kernel_rfl
theorem g2 : fofs Try.prog 101 2 = some (2, 1) := by kernel_rfl

section
variable {K : Value → World → Prop} {w : World} {x y : Operand} {m : Nat}
theorem cv35 (k : K (.int .u8 ((UInt8.ofNat m).toNat : Int)) w) : LiftP Try.prog (convert 3 5 (.int .i64 m)) K w :=
  cv und3 und5 (by rw [Be4.wrap_u8]; exact k)
theorem or128 {c : UInt8} (k : K (.int .u8 ((c ||| 128).toNat : Int)) w) : LiftP Try.prog (binS .or 5 x y (.int .u8 c.toNat) (.int .u8 128)) K w :=
  bi_or (by rw [show (128 : Int) = ((128 : UInt8).toNat : Int) from rfl, or_u8]; exact k)
theorem shr7 (k : K (.int .i64 ((m / 128 : Nat) : Int)) w) : LiftP Try.prog (binS .shr 3 x y (.int .i64 m) (.int .u64 7)) K w :=
  bi_shr (by omega) (by decide) (by rw [show ((m : Int) / 2 ^ (7 : Int).toNat) = ((m / 128 : Nat) : Int) from by
                                      have : (2 : Int) ^ (7 : Int).toNat = 128 := by decide
                                      rw [this]; omega]; exact k)
end
theorem Num_spec (n : Nat) (hn : n ≤ 1099511627776) (w : World) : CallP Try.prog 55 #[.int .i64 n] (fun r w' => Own 5 w' r ((Pack.num n).map u8) ∧ Fresh w.heap.size r ∧ Below w.heap.size w w') w := by
  refine ⟨S55.calls _ _ _ ?_⟩
  unfold S55
  (repeat with_reducible first|refine z_a ?_|refine z_b ?_|refine z_c ?_|refine z_d ?_|refine z_e ?_|refine z_f ?_|refine z_g ?_|refine z_h ?_|refine z_i ?_|refine z_j ?_|refine z_k ?_|refine z_l ?_|refine z_m (by omega) ?_|refine z_n (by omega) ?_|refine z_o (by omega) ?_|refine z_p (by omega) ?_|refine z_q (by omega) ?_|refine z_r (by omega) ?_|refine z_s (by omega) ?_|refine z_t (by omega) ?_|refine z_u (by omega) ?_|refine z_v (by omega) ?_|refine z_w (by omega) ?_|refine z_x (by omega) ?_|refine z_y (by omega) ?_|refine z_z (by omega) ?_|refine z_A ?_|refine z_B ?_|refine z_C ?_|refine z_D ?_|refine z_E ?_|refine z_F ?_|refine z_G ?_|refine z_H ?_|refine z_I ?_|refine z_J ?_|refine z_K (by omega) (by decide) ?_|refine z_L (by omega) (by decide) ?_|refine z_M (by omega) ?_|refine z_N (by omega) ?_|refine z_O (by omega) ?_|refine z_P ?_|refine z_Q ?_|refine z_R ?_|refine z_S ?_|refine z_T ?_|refine z_U (by decide) ?_|refine z_V (by decide) ?_)
  refine LoopP.inv2 (fun x o w' => ∃ (m : Nat) (pre : List UInt8), x = .int .i64 m ∧ Pack.num n = pre ++ Pack.num m ∧ pre.length + m ≤ n ∧ Own 5 w' o (pre.map u8) ∧ Fresh w.heap.size o ∧ Below w.heap.size w w') (fun x _ _ => (intOf x).toNat)
    ⟨n, [], rfl, rfl, by simp, Own.nil 5 w, Fresh.nil _, Below.refl _ w⟩ ?_
  rintro _ o w1 ⟨m, pre, rfl, hnum, hlen, ho, hf, hb⟩ J hJ
  dsimp only [List.headD_cons, List.tail_cons]
  (first | refine bi_lss_c (fun h => ?_) (fun h => ?_) | refine bi_eql_c (fun h => ?_) (fun h => ?_) | refine bi_neq_c (fun h => ?_) (fun h => ?_) | refine bi_gtr_c (fun h => ?_) (fun h => ?_) | refine bi_leq_c (fun h => ?_) (fun h => ?_) | refine bi_geq_c (fun h => ?_) (fun h => ?_) | refine bi_seql_c (fun h => ?_) (fun h => ?_) | refine bi_sneq_c (fun h => ?_) (fun h => ?_))
  · (repeat with_reducible first | refine cv35 ?_| refine or128 ?_| refine shr7 ?_|refine z_a ?_|refine z_b ?_|refine z_c ?_|refine z_d ?_|refine z_e ?_|refine z_f ?_|refine z_g ?_|refine z_h ?_|refine z_i ?_|refine z_j ?_|refine z_k ?_|refine z_l ?_|refine z_m (by omega) ?_|refine z_n (by omega) ?_|refine z_o (by omega) ?_|refine z_p (by omega) ?_|refine z_q (by omega) ?_|refine z_r (by omega) ?_|refine z_s (by omega) ?_|refine z_t (by omega) ?_|refine z_u (by omega) ?_|refine z_v (by omega) ?_|refine z_w (by omega) ?_|refine z_x (by omega) ?_|refine z_y (by omega) ?_|refine z_z (by omega) ?_|refine z_A ?_|refine z_B ?_|refine z_C ?_|refine z_D ?_|refine z_E ?_|refine z_F ?_|refine z_G ?_|refine z_H ?_|refine z_I ?_|refine z_J ?_|refine z_K (by omega) (by decide) ?_|refine z_L (by omega) (by decide) ?_|refine z_M (by omega) ?_|refine z_N (by omega) ?_|refine z_O (by omega) ?_|refine z_P ?_|refine z_Q ?_|refine z_R ?_|refine z_S ?_|refine z_T ?_|refine z_U (by decide) ?_|refine z_V (by decide) ?_)
    refine lift (v := .slice (some ⟨w1.heap.size, 0, none⟩) 1 1) (w' := w1.alloc (.cells #[.int .u8 ((UInt8.ofNat m ||| 128).toNat : Int)] 5)) (by kernel_rfl) ?_
    have ha := (Below.refl w1.heap.size w1).alloc (Nat.le_refl _) (.cells #[.int .u8 ((UInt8.ofNat m ||| 128).toNat : Int)] 5)
    refine apF w.heap.size undB inf5 (by rfl) (by decide) (ho.below ha) hf (below_then hb ha).size (Own.new w1 5 [.int .u8 ((UInt8.ofNat m ||| 128).toNat : Int)] (by simp)).rd (by simp [Value.oneCell']) (by simp; omega) ?_
    intro v2 w2 ho2 hf2 hb2 _
    (repeat with_reducible first | refine shr7 ?_|refine z_a ?_|refine z_b ?_|refine z_c ?_|refine z_d ?_|refine z_e ?_|refine z_f ?_|refine z_g ?_|refine z_h ?_|refine z_i ?_|refine z_j ?_|refine z_k ?_|refine z_l ?_|refine z_m (by omega) ?_|refine z_n (by omega) ?_|refine z_o (by omega) ?_|refine z_p (by omega) ?_|refine z_q (by omega) ?_|refine z_r (by omega) ?_|refine z_s (by omega) ?_|refine z_t (by omega) ?_|refine z_u (by omega) ?_|refine z_v (by omega) ?_|refine z_w (by omega) ?_|refine z_x (by omega) ?_|refine z_y (by omega) ?_|refine z_z (by omega) ?_|refine z_A ?_|refine z_B ?_|refine z_C ?_|refine z_D ?_|refine z_E ?_|refine z_F ?_|refine z_G ?_|refine z_H ?_|refine z_I ?_|refine z_J ?_|refine z_K (by omega) (by decide) ?_|refine z_L (by omega) (by decide) ?_|refine z_M (by omega) ?_|refine z_N (by omega) ?_|refine z_O (by omega) ?_|refine z_P ?_|refine z_Q ?_|refine z_R ?_|refine z_S ?_|refine z_T ?_|refine z_U (by decide) ?_|refine z_V (by decide) ?_)
    refine hJ _ _ _ ⟨m / 128, pre ++ [UInt8.ofNat m ||| 128], rfl, ?_, by simp; omega, by rw [List.map_append]; exact ho2, hf2, (below_then hb ha).trans hb2⟩ (by simp [intOf]; omega)
    rw [hnum, Pack.num_big m (by omega)]
    simp
  · (repeat with_reducible first | refine cv35 ?_|refine z_a ?_|refine z_b ?_|refine z_c ?_|refine z_d ?_|refine z_e ?_|refine z_f ?_|refine z_g ?_|refine z_h ?_|refine z_i ?_|refine z_j ?_|refine z_k ?_|refine z_l ?_|refine z_m (by omega) ?_|refine z_n (by omega) ?_|refine z_o (by omega) ?_|refine z_p (by omega) ?_|refine z_q (by omega) ?_|refine z_r (by omega) ?_|refine z_s (by omega) ?_|refine z_t (by omega) ?_|refine z_u (by omega) ?_|refine z_v (by omega) ?_|refine z_w (by omega) ?_|refine z_x (by omega) ?_|refine z_y (by omega) ?_|refine z_z (by omega) ?_|refine z_A ?_|refine z_B ?_|refine z_C ?_|refine z_D ?_|refine z_E ?_|refine z_F ?_|refine z_G ?_|refine z_H ?_|refine z_I ?_|refine z_J ?_|refine z_K (by omega) (by decide) ?_|refine z_L (by omega) (by decide) ?_|refine z_M (by omega) ?_|refine z_N (by omega) ?_|refine z_O (by omega) ?_|refine z_P ?_|refine z_Q ?_|refine z_R ?_|refine z_S ?_|refine z_T ?_|refine z_U (by decide) ?_|refine z_V (by decide) ?_)
    refine lift (v := .slice (some ⟨w1.heap.size, 0, none⟩) 1 1) (w' := w1.alloc (.cells #[.int .u8 ((UInt8.ofNat m).toNat : Int)] 5)) (by kernel_rfl) ?_
    have ha := (Below.refl w1.heap.size w1).alloc (Nat.le_refl _) (.cells #[.int .u8 ((UInt8.ofNat m).toNat : Int)] 5)
    refine apF w.heap.size undB inf5 (by rfl) (by decide) (ho.below ha) hf (below_then hb ha).size (Own.new w1 5 [.int .u8 ((UInt8.ofNat m).toNat : Int)] (by simp)).rd (by simp [Value.oneCell']) (by simp; omega) ?_
    intro v2 w2 ho2 hf2 hb2 _
    refine ⟨?_, hf2, (below_then hb ha).trans hb2⟩
    rw [hnum, Pack.num_small m (by omega), List.map_append]
    exact ho2
theorem Text_spec (s : ByteArray) (hs : s.size ≤ 1000000) (w : World) : CallP Try.prog 72 #[.string s] (fun r w' => Own 5 w' r ((Pack.text s).map u8) ∧ Below w.heap.size w w') w := by
  have hsz : s.data.toList.length = s.size := by rw [Array.length_toList]; rfl
  refine ⟨S72.calls _ _ _ ?_⟩
  unfold S72
  refine lns und9 ?_
  refine (Num_spec s.size (by omega) w).mono ?_
  rintro v1 w1 ⟨ho1, hf1, hb1⟩
  have hnl := Pack.num_length s.size
  refine apS w.heap.size undB und9 inf5 ho1 hf1 hb1.size (by omega) ?_
  intro v2 w2 ho2 hb2
  refine ⟨?_, hb1.trans hb2⟩
  rw [Pack.text, hsz]
  exact ho2
end Go.Proofs.Ythicbfopjakiiaa.E
