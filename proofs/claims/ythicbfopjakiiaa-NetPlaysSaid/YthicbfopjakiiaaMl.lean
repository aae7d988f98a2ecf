import Derived.Test.YthicbfopjakiiaaMi
import Derived.Test.YthicbfopjakiiaaMb
import Derived.Shelf.SlIterI.Nil
import Derived.Shelf.SortM.Plain
import Derived.Shelf.SortM.SortNone
import Derived.Test.YthicbfopjakiiaaProg
namespace Go.Proofs.Ythicbfopjakiiaa.E
open Go Go.RowKit
set_option linter.unusedSimpArgs false
set_option linter.unusedVariables false

/-- A letter laid into new memory. -/
theorem newLet {K : Value → World → Prop} {w : World} {L : Let} {p q : Value} (hp : p.oneCell' = true) (hq : q.oneCell' = true)
    (k : ∀ w', Blk w' w.heap.size 58 (L.cells p q) → Below w.heap.size w w' → K (.pointer (some ⟨w.heap.size, 0, none⟩)) w') :
    LiftP Try.prog (Instr.alloc 58 true (.tuple #[])) (fun v w => LiftU Try.prog (Instr.storeAt 58 v (.agg (L.cells p q))) (fun _ w => K v w) w) w := by
  refine al z58 ?_
  have hR : Blk (w.alloc (.cells (Value.agg (zeroLet.cells (.slice none 0 0) (.slice none 0 0))).cells 58)) w.heap.size 58 (zeroLet.cells (.slice none 0 0) (.slice none 0 0)) := Blk.new w 58 _
  have ha := (Below.refl w.heap.size w).alloc (Nat.le_refl _) (.cells (Value.agg (zeroLet.cells (.slice none 0 0) (.slice none 0 0))).cells 58)
  refine stA hR (by exact sz58) (by rfl) (cells_one _ _ _ hp hq) ?_
  exact k _ (hR.row (L.cells p q)) (below_setRow ha (Nat.le_refl _) _)
/-- What stands at a number; else the empty letter. -/
def theMsg (o : Option Msg) : Msg := o.getD ⟨zeroLet, .slice none 0 0, .slice none 0 0, [], []⟩
theorem Look_net (c : Nat → Nat) (w : World) (g last : Nat) (l : List (Int × Msg)) (n : Int) (h : NetC c w g last l) :
    CallP Try.prog 35 #[.pointer (some ⟨g, 0, none⟩), .int .i64 n] (fun r w' => ∃ p' q', r = .tuple #[.agg ((theMsg (getK n l)).L.cells p' q'), .bool (getK n l).isSome] ∧
      OwnS 2 64 w' p' (theMsg (getK n l)).ps.length ((theMsg (getK n l)).ps.flatMap pairF) ∧ OwnS 3 68 w' q' (theMsg (getK n l)).is.length ((theMsg (getK n l)).is.flatMap intentF) ∧ Fresh w.heap.size p' ∧ Fresh w.heap.size q' ∧ (p'.ownBlock = none ∨ p'.ownBlock ≠ q'.ownBlock) ∧ Below w.heap.size w w') w := by
  have hC := h
  obtain ⟨b, h⟩ := h
  refine ⟨S35.calls _ _ _ _ ?_⟩
  unfold S35
  refine al z58 ?_
  have hR : Blk (w.alloc (.cells (Value.agg (zeroLet.cells (.slice none 0 0) (.slice none 0 0))).cells 58)) w.heap.size 58 (zeroLet.cells (.slice none 0 0) (.slice none 0 0)) := Blk.new w 58 _
  have ha := (Below.refl w.heap.size w).alloc (Nat.le_refl _) (.cells (Value.agg (zeroLet.cells (.slice none 0 0) (.slice none 0 0))).cells 58)
  generalize w.alloc (.cells (Value.agg (zeroLet.cells (.slice none 0 0) (.slice none 0 0))).cells 58) = w1 at *
  have h1 := h.below ha
  have c0 : w1.cell? ⟨g, 0, none⟩ = some (.map (some b)) := h1.blk.cell 0
  (repeat with_reducible first | refine fd n0 (by decide) ?_| refine ld one116 c0 ?_|refine z_a ?_|refine z_b ?_|refine z_c ?_|refine z_d ?_|refine z_e ?_|refine z_f ?_|refine z_g ?_|refine z_h ?_|refine z_i ?_|refine z_j ?_|refine z_k ?_|refine z_l ?_|refine z_m (by omega) ?_|refine z_n (by omega) ?_|refine z_o (by omega) ?_|refine z_p (by omega) ?_|refine z_q (by omega) ?_|refine z_r (by omega) ?_|refine z_s (by omega) ?_|refine z_t (by omega) ?_|refine z_u (by omega) ?_|refine z_v (by omega) ?_|refine z_w (by omega) ?_|refine z_x (by omega) ?_|refine z_y (by omega) ?_|refine z_z (by omega) ?_|refine z_A ?_|refine z_B ?_|refine z_C ?_|refine z_D ?_|refine z_E ?_|refine z_F ?_|refine z_G ?_|refine z_H ?_|refine z_I ?_|refine z_J ?_|refine z_K (by omega) (by decide) ?_|refine z_L (by omega) (by decide) ?_|refine z_M (by omega) ?_|refine z_N (by omega) ?_|refine z_O (by omega) ?_|refine z_P ?_|refine z_Q ?_|refine z_R ?_|refine z_S ?_|refine z_T ?_|refine z_U (by decide) ?_|refine z_V (by decide) ?_)
  refine lkp und116 und3 z58 h1.map ?_
  obtain ⟨e1, e2⟩ := looked (l := l) n
  obtain ⟨m, hm⟩ : ∃ m, theMsg (getK n l) = m := ⟨_, rfl⟩
  have hval : (match getK n l with | some m => m.val | none => .agg (zeroLet.cells (.slice none 0 0) (.slice none 0 0))) = Value.agg (m.L.cells m.p m.q) := by
    rw [← hm]
    cases getK n l <;> rfl
  rw [e1.trans hval, e2]
  have hmsg : Pairs w1 [m.p] m.ps ∧ Intents w1 [m.q] m.is ∧ m.ps.length ≤ 256 ∧ m.is.length ≤ 256 ∧ m.p.oneCell' = true ∧ m.q.oneCell' = true := by
    cases hx : getK n l with
    | none =>
      rw [hx] at hm
      rw [← hm]
      exact ⟨pnil w1, inil w1, Nat.zero_le _, Nat.zero_le _, rfl, rfl⟩
    | some m' =>
      rw [hx] at hm
      have : m' = m := hm
      subst this
      have hmem := getK_mem _ _ _ hx
      have hq := (h1.el _ hmem).2
      obtain ⟨o1, o2⟩ := hC.one hmem
      exact ⟨hq.pairs, hq.intents, hq.lp, hq.lq, o1, o2⟩
  rw [hm]
  obtain ⟨hp, hq, hlp, hlq, o1, o2⟩ := hmsg
  generalize (getK n l).isSome = bb
  (repeat with_reducible first|refine z_a ?_|refine z_b ?_|refine z_c ?_|refine z_d ?_|refine z_e ?_|refine z_f ?_|refine z_g ?_|refine z_h ?_|refine z_i ?_|refine z_j ?_|refine z_k ?_|refine z_l ?_|refine z_m (by omega) ?_|refine z_n (by omega) ?_|refine z_o (by omega) ?_|refine z_p (by omega) ?_|refine z_q (by omega) ?_|refine z_r (by omega) ?_|refine z_s (by omega) ?_|refine z_t (by omega) ?_|refine z_u (by omega) ?_|refine z_v (by omega) ?_|refine z_w (by omega) ?_|refine z_x (by omega) ?_|refine z_y (by omega) ?_|refine z_z (by omega) ?_|refine z_A ?_|refine z_B ?_|refine z_C ?_|refine z_D ?_|refine z_E ?_|refine z_F ?_|refine z_G ?_|refine z_H ?_|refine z_I ?_|refine z_J ?_|refine z_K (by omega) (by decide) ?_|refine z_L (by omega) (by decide) ?_|refine z_M (by omega) ?_|refine z_N (by omega) ?_|refine z_O (by omega) ?_|refine z_P ?_|refine z_Q ?_|refine z_R ?_|refine z_S ?_|refine z_T ?_|refine z_U (by decide) ?_|refine z_V (by decide) ?_)
  refine newLet o1 o2 ?_
  intro w2 hL2 hb2
  have hR2 := hR.below' hb2
  have hb2' := below_then ha hb2
  refine ldA agg58 hL2 (by exact sz58) ?_
  refine (Copy_spec m.L m.p m.q m.ps m.is w2 (keeps_Pairs _ _ _ _ hb2 hp) (keeps_Intents _ _ _ _ hb2 hq) (by omega) (by omega)).mono ?_
  rintro _ w3 ⟨p', q', rfl, hop, hoq, hfp, hfq, hapart, hb3⟩
  have hR3 := hR2.below' hb3
  have hb3' := below_then hb2' hb3
  have h1p : p'.oneCell' = true := by obtain ⟨A, e⟩ := hop.slice; rw [e]; rfl
  have h1q : q'.oneCell' = true := by obtain ⟨A, e⟩ := hoq.slice; rw [e]; rfl
  refine stA hR3 (by exact sz58) (by rfl) (cells_one _ _ _ h1p h1q) ?_
  have hR4 := hR3.row (m.L.cells p' q')
  have hT4 : Turns (fun k => k = w.heap.size) w3 (w3.setRow w.heap.size (m.L.cells p' q')) := Turns.setRow (F := fun k => k = w.heap.size) (Turns.refl _ w3) (.inl rfl) _
  have hs2 := hR2.lt
  refine retA agg58 hR4 (by exact sz58) ?_
  have hs1 := hb2'.size
  refine ⟨p', q', rfl, hop.turns hT4 (fun k hk he => by have := hfp k hk; omega), hoq.turns hT4 (fun k hk he => by have := hfq k hk; omega), fun k hk => by have := hfp k hk; omega, fun k hk => by have := hfq k hk; omega, hapart, hb3'.trans (hT4.below (by have := hb3'.size; omega) fun k hk he => by omega)⟩
end Go.Proofs.Ythicbfopjakiiaa.E
namespace Go.Proofs.Ythicbfopjakiiaa.E
open Go Go.RowKit
set_option linter.unusedSimpArgs false
set_option linter.unusedVariables false

end Go.Proofs.Ythicbfopjakiiaa.E
namespace Go.Proofs.Ythicbfopjakiiaa.E
open Go Go.RowKit
set_option linter.unusedSimpArgs false
set_option linter.unusedVariables false

abbrev LetterT := Int × Int × Int × Int × Int × Int × Int × ByteArray × ByteArray × List PairT × List IntentT × Int × Bool × ByteArray × Unit
abbrev rLetter : Rdr LetterT := rCons 1 (rI .i64) (rCons 1 (rI .i64) (rCons 1 (rI .i64) (rCons 1 (rI .i64) (rCons 1 (rI .i64) (rCons 1 (rI .i64) (rCons 1 (rI .i64)
  (rCons 1 rS (rCons 1 rS (rCons 1 Pairs (rCons 1 Intents (rCons 1 (rI .i64) (rCons 1 rBool (rCons 1 rS rNil)))))))))))))
theorem und25 : Try.prog.underlying 25 = some (.int .i64) := by kernel_rfl
theorem opens_Pairs : Opens Try.prog 55 Pairs := opens_row und55 (by kernel_rfl) (opens_struct Try.underlying64 (by kernel_rfl) (opensF_cons rfl (by kernel_rfl) (by decide) (opens_string und9) (opensF_cons rfl (by kernel_rfl) (by decide) (opens_string und9) opensF_nil)))
theorem opens_Intents : Opens Try.prog 56 Intents := opens_row und56 (by kernel_rfl) (opens_struct Try.underlying68 (by kernel_rfl) (opensF_cons rfl (by kernel_rfl) (by decide) (opens_string und9) (opensF_cons rfl (by kernel_rfl) (by decide) (opens_int und3) (opensF_cons rfl (by kernel_rfl) (by decide) (opens_bool und4) opensF_nil))))
theorem opens_Letter : Opens Try.prog 58 rLetter := opens_struct Try.underlying58 (by kernel_rfl)
  (opensF_cons rfl (by kernel_rfl) (by decide) (opens_int und3) (opensF_cons rfl (by kernel_rfl) (by decide) (opens_int und3) (opensF_cons rfl (by kernel_rfl) (by decide) (opens_int und3) (opensF_cons rfl (by kernel_rfl) (by decide) (opens_int und3)
  (opensF_cons rfl (by kernel_rfl) (by decide) (opens_int und3) (opensF_cons rfl (by kernel_rfl) (by decide) (opens_int und3) (opensF_cons rfl (by kernel_rfl) (by decide) (opens_int und3)
  (opensF_cons rfl (by kernel_rfl) (by decide) (opens_string und9) (opensF_cons rfl (by kernel_rfl) (by decide) (opens_string und9) (opensF_cons rfl (by kernel_rfl) (by decide) opens_Pairs (opensF_cons rfl (by kernel_rfl) (by decide) opens_Intents
  (opensF_cons rfl (by kernel_rfl) (by decide) (opens_int und25) (opensF_cons rfl (by kernel_rfl) (by decide) (opens_bool und4) (opensF_cons rfl (by kernel_rfl) (by decide) (opens_string und9) opensF_nil))))))))))))))
theorem letter_cells {w : World} {cs : List Value} {z : LetterT} (h : rLetter w cs z) : ∃ L : Let, ∃ p q ps is, cs = (L.cells p q).toList ∧ Pairs w [p] ps ∧ Intents w [q] is := by
  obtain ⟨r, rfl, _, h⟩ := rCons_I h
  obtain ⟨r, rfl, _, h⟩ := rCons_I h
  obtain ⟨r, rfl, _, h⟩ := rCons_I h
  obtain ⟨r, rfl, _, h⟩ := rCons_I h
  obtain ⟨r, rfl, _, h⟩ := rCons_I h
  obtain ⟨r, rfl, _, h⟩ := rCons_I h
  obtain ⟨r, rfl, _, h⟩ := rCons_I h
  obtain ⟨r, rfl, _, h⟩ := rCons_S h
  obtain ⟨r, rfl, _, h⟩ := rCons_S h
  obtain ⟨p, r, rfl, hp, h⟩ := rCons_Row h
  obtain ⟨q, r, rfl, hq, h⟩ := rCons_Row h
  obtain ⟨r, rfl, _, h⟩ := rCons_I h
  obtain ⟨r, rfl, h9⟩ := rCons_Bool h
  obtain ⟨r, rfl, _, h⟩ := rCons_S h9
  have : r = [] := h
  subst this
  exact ⟨⟨_, _, _, _, _, _, _, _, _, _, _, _⟩, p, q, _, _, rfl, hp, hq⟩
end Go.Proofs.Ythicbfopjakiiaa.E
namespace Go.Proofs.Ythicbfopjakiiaa.E
open Go Go.Proofs Go.Shelf

def keysA_ren : Go.Shelf.Ren := ⟨fun | 7 => 67 | 10 => 83 | n => n, fun | 23 => 116 | 26 => 3 | 3 => 58 | 28 => 127 | 0 => 0 | 27 => 126 | 33 => 31 | 4 => 4 | n => n, fun | n => n⟩
theorem keysA : Go.Proofs.SlLaysZI.n7 Try.prog keysA_ren := {
  mixed := by kernel_rfl
  f7 := ⟨Try.f67.name, by decide, Try.func67.trans (congrArg some (by kernel_rfl))⟩
  f10 := ⟨Try.f83.name, by decide, Try.func83.trans (congrArg some (by kernel_rfl))⟩
  t0 := Try.underlying0
  a0 := Try.isAgg0
  z0 := Try.sizeOf0
  v0 := Try.zeroValue0
  t4 := Try.underlying4
  a4 := Try.isAgg4
  z4 := Try.sizeOf4
  v4 := Try.zeroValue4
  t23 := Try.underlying116
  a23 := Try.isAgg116
  z23 := Try.sizeOf116
  v23 := Try.zeroValue116
  t26 := Try.underlying3
  a26 := Try.isAgg3
  z26 := Try.sizeOf3
  v26 := Try.zeroValue3
  t27 := Try.underlying126
  a27 := Try.isAgg126
  z27 := Try.sizeOf126
  v27 := Try.zeroValue126
  t28 := Try.underlying127
  a28 := Try.isAgg127
  z28 := Try.sizeOf127
  v28 := Try.zeroValue127
  t33 := Try.underlying31
  a33 := Try.isAgg31
  z33 := Try.sizeOf31
  v33 := Try.zeroValue31 }
def sortedA_ren : Go.Shelf.Ren := ⟨fun | 6 => 66 | 8 => 81 | 9 => 82 | 11 => 90 | 13 => 92 | 12 => 91 | 23 => 103 | 24 => 104 | 14 => 94 | 15 => 95 | 16 => 96 | 17 => 97 | 18 => 98 | 19 => 99 | 20 => 100 | 21 => 101 | 22 => 102 | 25 => 105 | 26 => 106 | 27 => 107 | 28 => 108 | 29 => 109 | 30 => 110 | 31 => 111 | n => n, fun | 26 => 3 | 28 => 127 | 24 => 81 | 0 => 0 | 3 => 3 | 37 => 93 | 48 => 161 | 50 => 163 | 4 => 4 | 40 => 154 | 39 => 153 | 45 => 158 | 5 => 5 | 9 => 9 | 51 => 164 | 55 => 102 | 57 => 169 | 58 => 170 | 33 => 31 | n => n, fun | n => n⟩
theorem sortedA : Go.Proofs.SlLaysZI.n6 Try.prog sortedA_ren := {
  mixed := by kernel_rfl
  f6 := ⟨Try.f66.name, by decide, Try.func66.trans (congrArg some (by kernel_rfl))⟩
  f8 := ⟨Try.f81.name, by decide, Try.func81.trans (congrArg some (by kernel_rfl))⟩
  f11 := ⟨Try.f90.name, by decide, Try.func90.trans (congrArg some (by kernel_rfl))⟩
  t0 := Try.underlying0
  a0 := Try.isAgg0
  z0 := Try.sizeOf0
  v0 := Try.zeroValue0
  t24 := Try.underlying81
  a24 := Try.isAgg81
  z24 := Try.sizeOf81
  v24 := Try.zeroValue81
  t26 := Try.underlying3
  a26 := Try.isAgg3
  z26 := Try.sizeOf3
  v26 := Try.zeroValue3
  t28 := Try.underlying127
  a28 := Try.isAgg127
  z28 := Try.sizeOf127
  v28 := Try.zeroValue127
  i26 := by kernel_rfl }
def sortA_ren : Go.Shelf.Ren := ⟨fun | 5 => 82 | 8 => 92 | 7 => 91 | 19 => 103 | 20 => 104 | 10 => 94 | 11 => 95 | 12 => 96 | 13 => 97 | 14 => 98 | 15 => 99 | 16 => 100 | 17 => 101 | 18 => 102 | 30 => 105 | 31 => 106 | 32 => 107 | 33 => 108 | 34 => 109 | 35 => 110 | 40 => 111 | n => n, fun | 23 => 81 | 25 => 3 | 3 => 3 | 32 => 93 | 22 => 81 | 0 => 0 | 44 => 161 | 46 => 163 | 4 => 4 | 36 => 154 | 35 => 153 | 41 => 158 | 5 => 5 | 9 => 9 | 53 => 164 | 57 => 102 | 63 => 169 | 64 => 170 | n => n, fun | n => n⟩
theorem sortA : Go.Proofs.SlLaysM.n5 Try.prog sortA_ren := {
  mixed := by kernel_rfl
  f5 := ⟨Try.f82.name, by decide, Try.func82.trans (congrArg some (by kernel_rfl))⟩
  f7 := ⟨Try.f91.name, by decide, Try.func91.trans (congrArg some (by kernel_rfl))⟩
  f8 := Try.func92.trans (congrArg some (by kernel_rfl))
  f10 := ⟨Try.f94.name, by decide, Try.func94.trans (congrArg some (by kernel_rfl))⟩
  f11 := ⟨Try.f95.name, by decide, Try.func95.trans (congrArg some (by kernel_rfl))⟩
  f12 := ⟨Try.f96.name, by decide, Try.func96.trans (congrArg some (by kernel_rfl))⟩
  f13 := ⟨Try.f97.name, by decide, Try.func97.trans (congrArg some (by kernel_rfl))⟩
  f14 := ⟨Try.f98.name, by decide, Try.func98.trans (congrArg some (by kernel_rfl))⟩
  f15 := ⟨Try.f99.name, by decide, Try.func99.trans (congrArg some (by kernel_rfl))⟩
  f16 := ⟨Try.f100.name, by decide, Try.func100.trans (congrArg some (by kernel_rfl))⟩
  f17 := ⟨Try.f101.name, by decide, Try.func101.trans (congrArg some (by kernel_rfl))⟩
  f18 := ⟨Try.f102.name, by decide, Try.func102.trans (congrArg some (by kernel_rfl))⟩
  f19 := Try.func103.trans (congrArg some (by kernel_rfl))
  f20 := Try.func104.trans (congrArg some (by kernel_rfl))
  f30 := ⟨Try.f105.name, by decide, Try.func105.trans (congrArg some (by kernel_rfl))⟩
  f31 := Try.func106.trans (congrArg some (by kernel_rfl))
  f32 := Try.func107.trans (congrArg some (by kernel_rfl))
  f33 := ⟨Try.f108.name, by decide, Try.func108.trans (congrArg some (by kernel_rfl))⟩
  f34 := ⟨Try.f109.name, by decide, Try.func109.trans (congrArg some (by kernel_rfl))⟩
  f35 := ⟨Try.f110.name, by decide, Try.func110.trans (congrArg some (by kernel_rfl))⟩
  f40 := ⟨Try.f111.name, by decide, Try.func111.trans (congrArg some (by kernel_rfl))⟩
  t0 := Try.underlying0
  a0 := Try.isAgg0
  z0 := Try.sizeOf0
  v0 := Try.zeroValue0
  t3 := Try.underlying3
  a3 := Try.isAgg3
  z3 := Try.sizeOf3
  v3 := Try.zeroValue3
  t4 := Try.underlying4
  a4 := Try.isAgg4
  z4 := Try.sizeOf4
  v4 := Try.zeroValue4
  t5 := Try.underlying5
  a5 := Try.isAgg5
  z5 := Try.sizeOf5
  v5 := Try.zeroValue5
  t9 := Try.underlying9
  a9 := Try.isAgg9
  z9 := Try.sizeOf9
  v9 := Try.zeroValue9
  t22 := Try.underlying81
  a22 := Try.isAgg81
  z22 := Try.sizeOf81
  v22 := Try.zeroValue81
  t23 := Try.underlying81
  a23 := Try.isAgg81
  z23 := Try.sizeOf81
  v23 := Try.zeroValue81
  t25 := Try.underlying3
  a25 := Try.isAgg3
  z25 := Try.sizeOf3
  v25 := Try.zeroValue3
  t32 := Try.underlying93
  a32 := Try.isAgg93
  z32 := Try.sizeOf93
  v32 := Try.zeroValue93
  t35 := Try.underlying153
  a35 := Try.isAgg153
  z35 := Try.sizeOf153
  v35 := Try.zeroValue153
  t36 := Try.underlying154
  a36 := Try.isAgg154
  z36 := Try.sizeOf154
  v36 := Try.zeroValue154
  t41 := Try.underlying158
  a41 := Try.isAgg158
  z41 := Try.sizeOf158
  v41 := Try.zeroValue158
  t44 := Try.underlying161
  a44 := Try.isAgg161
  z44 := Try.sizeOf161
  v44 := Try.zeroValue161
  t46 := Try.underlying163
  a46 := Try.isAgg163
  z46 := Try.sizeOf163
  v46 := Try.zeroValue163
  t53 := Try.underlying164
  a53 := Try.isAgg164
  z53 := Try.sizeOf164
  v53 := Try.zeroValue164
  t57 := Try.underlying102
  a57 := Try.isAgg102
  z57 := Try.sizeOf102
  v57 := Try.zeroValue102
  t63 := Try.underlying169
  a63 := Try.isAgg169
  z63 := Try.sizeOf169
  v63 := Try.zeroValue169
  t64 := Try.underlying170
  a64 := Try.isAgg170
  z64 := Try.sizeOf170
  v64 := Try.zeroValue170 }
end Go.Proofs.Ythicbfopjakiiaa.E
