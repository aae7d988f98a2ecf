/- Look of a net; rows of a letter turned. -/
import Derived.Test.YthicbfopjakiiaaLetI
import Derived.Test.YthicbfopjakiiaaE21
namespace Go.Proofs.Ythicbfopjakiiaa.E
open Go Go.RowKit
set_option linter.unusedSimpArgs false
set_option linter.unusedVariables false

theorem sz4 : (Try.prog.info? 4).map (·.size) = some 1 := by kernel_rfl
/-- A letter laid into new memory. -/
theorem newLet {K : Value → World → Prop} {w : World} {L : Let} {p q : Value} (hp : p.oneCell' = true) (hq : q.oneCell' = true)
    (k : ∀ w', Blk w' w.heap.size 58 (L.cells p q) → Below w.heap.size w w' → K (.pointer (some ⟨w.heap.size, 0, none⟩)) w') :
    LiftP Try.prog (Instr.alloc 58 true (.tuple #[])) (fun v w => LiftU Try.prog (Instr.storeAt 58 v (.agg (L.cells p q))) (fun _ w => K v w) w) w := by
  refine al z58 ?_
  have hR : Blk (w.alloc (.cells (Value.agg (zeroLet.cells (.slice none 0 0) (.slice none 0 0))).cells 58)) w.heap.size 58 (zeroLet.cells (.slice none 0 0) (.slice none 0 0)) := Blk.new w 58 _
  have ha := (Below.refl w.heap.size w).alloc (Nat.le_refl _) (.cells (Value.agg (zeroLet.cells (.slice none 0 0) (.slice none 0 0))).cells 58)
  refine stA hR (by exact sz58) (by rfl) (cells_one _ _ _ hp hq) ?_
  exact k _ (hR.row (L.cells p q)) (below_setRow ha (Nat.le_refl _) _)
/-- What stands at a number; else the empty letter. -/
def theMsg (o : Option Msg) : Msg := o.getD ⟨zeroLet, .slice none 0 0, .slice none 0 0, [], []⟩
theorem Look_net (c : Nat → Nat) (w : World) (g last : Nat) (l : List (Int × Msg)) (n : Int) (h : NetC c w g last l) :
    CallP Try.prog 35 #[.pointer (some ⟨g, 0, none⟩), .int .i64 n] (fun r w' => ∃ p' q', r = .tuple #[.agg ((theMsg (getK n l)).L.cells p' q'), .bool (getK n l).isSome] ∧
      OwnS 2 64 w' p' (theMsg (getK n l)).ps.length ((theMsg (getK n l)).ps.flatMap pairF) ∧ OwnS 3 68 w' q' (theMsg (getK n l)).is.length ((theMsg (getK n l)).is.flatMap intentF) ∧ Fresh w.heap.size p' ∧ Fresh w.heap.size q' ∧ (p'.ownBlock = none ∨ p'.ownBlock ≠ q'.ownBlock) ∧ Below w.heap.size w w') w := by
  have hC := h
  obtain ⟨b, h⟩ := h
  refine ⟨S35.calls _ _ _ _ ?_⟩
  unfold S35
  refine al z58 ?_
  have hR : Blk (w.alloc (.cells (Value.agg (zeroLet.cells (.slice none 0 0) (.slice none 0 0))).cells 58)) w.heap.size 58 (zeroLet.cells (.slice none 0 0) (.slice none 0 0)) := Blk.new w 58 _
  have ha := (Below.refl w.heap.size w).alloc (Nat.le_refl _) (.cells (Value.agg (zeroLet.cells (.slice none 0 0) (.slice none 0 0))).cells 58)
  generalize w.alloc (.cells (Value.agg (zeroLet.cells (.slice none 0 0) (.slice none 0 0))).cells 58) = w1 at *
  have h1 := h.below ha
  have c0 : w1.cell? ⟨g, 0, none⟩ = some (.map (some b)) := h1.blk.cell 0
  (repeat (first | (with_reducible refine fd n0 (by decide) ?_) | (with_reducible refine ld one116 c0 ?_) | (with_reducible refine nck ?_) | (with_reducible refine cdT ?_) | (with_reducible refine cdF ?_) | (with_reducible refine gdY ?_) | (with_reducible refine gdFT ?_) | (with_reducible refine gdTF ?_) | (with_reducible refine gdU ?_) | (with_reducible refine gaY ?_) | (with_reducible refine gaFT ?_) | (with_reducible refine gaTF ?_) | (with_reducible refine pickT ?_) | (with_reducible refine pickF ?_) | (with_reducible refine bi_lss_t (by omega) ?_) | (with_reducible refine bi_lss_f (by omega) ?_) | (with_reducible refine bi_add64 (by omega) ?_) | (with_reducible refine bi_sub64 (by omega) ?_) | (with_reducible refine bi_eql_t (by omega) ?_) | (with_reducible refine bi_eql_f (by omega) ?_) | (with_reducible refine bi_neq_t (by omega) ?_) | (with_reducible refine bi_neq_f (by omega) ?_) | (with_reducible refine bi_gtr_t (by omega) ?_) | (with_reducible refine bi_gtr_f (by omega) ?_) | (with_reducible refine bi_leq_t (by omega) ?_) | (with_reducible refine bi_leq_f (by omega) ?_) | (with_reducible refine bi_geq_t (by omega) ?_) | (with_reducible refine bi_geq_f (by omega) ?_) | (with_reducible refine bi_xt0 ?_) | (with_reducible refine bi_xt1 ?_) | (with_reducible refine bi_xt2 ?_) | (with_reducible refine bi_xt3 ?_) | (with_reducible refine bi_T ?_) | (with_reducible refine bi_F ?_) | (with_reducible refine bi_not ?_) | (with_reducible refine bi_and ?_) | (with_reducible refine bi_or ?_) | (with_reducible refine bi_xor ?_) | (with_reducible refine bi_shr (by omega) (by decide) ?_) | (with_reducible refine bi_shl (by omega) (by decide) ?_) | (with_reducible refine bi_quo64 (by omega) ?_) | (with_reducible refine bi_rem64 (by omega) ?_) | (with_reducible refine bi_mul64 (by omega) ?_) | (with_reducible refine bi_neg ?_) | (with_reducible refine bi_un_xor32 ?_) | (with_reducible refine bi_add ?_) | (with_reducible refine bi_sub ?_) | (with_reducible refine bi_mul ?_) | (with_reducible refine bi_quo (by decide) ?_) | (with_reducible refine bi_rem (by decide) ?_)))
  refine lkp und116 und3 z58 h1.map ?_
  obtain ⟨e1, e2⟩ := looked (l := l) n
  obtain ⟨m, hm⟩ : ∃ m, theMsg (getK n l) = m := ⟨_, rfl⟩
  have hval : (match getK n l with | some m => m.val | none => .agg (zeroLet.cells (.slice none 0 0) (.slice none 0 0))) = Value.agg (m.L.cells m.p m.q) := by
    rw [← hm]
    cases getK n l <;> rfl
  rw [e1.trans hval, e2]
  have hmsg : Pairs w1 [m.p] m.ps ∧ Intents w1 [m.q] m.is ∧ m.ps.length ≤ 256 ∧ m.is.length ≤ 256 ∧ m.p.oneCell' = true ∧ m.q.oneCell' = true := by
    cases hx : getK n l with
    | none =>
      rw [hx] at hm
      rw [← hm]
      exact ⟨pnil w1, inil w1, Nat.zero_le _, Nat.zero_le _, rfl, rfl⟩
    | some m' =>
      rw [hx] at hm
      have : m' = m := hm
      subst this
      have hmem := getK_mem _ _ _ hx
      have hq := (h1.el _ hmem).2
      obtain ⟨o1, o2⟩ := hC.one hmem
      exact ⟨hq.pairs, hq.intents, hq.lp, hq.lq, o1, o2⟩
  rw [hm]
  obtain ⟨hp, hq, hlp, hlq, o1, o2⟩ := hmsg
  generalize (getK n l).isSome = bb
  (repeat (first | (with_reducible refine nck ?_) | (with_reducible refine cdT ?_) | (with_reducible refine cdF ?_) | (with_reducible refine gdY ?_) | (with_reducible refine gdFT ?_) | (with_reducible refine gdTF ?_) | (with_reducible refine gdU ?_) | (with_reducible refine gaY ?_) | (with_reducible refine gaFT ?_) | (with_reducible refine gaTF ?_) | (with_reducible refine pickT ?_) | (with_reducible refine pickF ?_) | (with_reducible refine bi_lss_t (by omega) ?_) | (with_reducible refine bi_lss_f (by omega) ?_) | (with_reducible refine bi_add64 (by omega) ?_) | (with_reducible refine bi_sub64 (by omega) ?_) | (with_reducible refine bi_eql_t (by omega) ?_) | (with_reducible refine bi_eql_f (by omega) ?_) | (with_reducible refine bi_neq_t (by omega) ?_) | (with_reducible refine bi_neq_f (by omega) ?_) | (with_reducible refine bi_gtr_t (by omega) ?_) | (with_reducible refine bi_gtr_f (by omega) ?_) | (with_reducible refine bi_leq_t (by omega) ?_) | (with_reducible refine bi_leq_f (by omega) ?_) | (with_reducible refine bi_geq_t (by omega) ?_) | (with_reducible refine bi_geq_f (by omega) ?_) | (with_reducible refine bi_xt0 ?_) | (with_reducible refine bi_xt1 ?_) | (with_reducible refine bi_xt2 ?_) | (with_reducible refine bi_xt3 ?_) | (with_reducible refine bi_T ?_) | (with_reducible refine bi_F ?_) | (with_reducible refine bi_not ?_) | (with_reducible refine bi_and ?_) | (with_reducible refine bi_or ?_) | (with_reducible refine bi_xor ?_) | (with_reducible refine bi_shr (by omega) (by decide) ?_) | (with_reducible refine bi_shl (by omega) (by decide) ?_) | (with_reducible refine bi_quo64 (by omega) ?_) | (with_reducible refine bi_rem64 (by omega) ?_) | (with_reducible refine bi_mul64 (by omega) ?_) | (with_reducible refine bi_neg ?_) | (with_reducible refine bi_un_xor32 ?_) | (with_reducible refine bi_add ?_) | (with_reducible refine bi_sub ?_) | (with_reducible refine bi_mul ?_) | (with_reducible refine bi_quo (by decide) ?_) | (with_reducible refine bi_rem (by decide) ?_)))
  refine newLet o1 o2 ?_
  intro w2 hL2 hb2
  have hR2 := hR.below' hb2
  have hb2' := below_then ha hb2
  refine ldA agg58 hL2 (by exact sz58) ?_
  refine (Copy_spec m.L m.p m.q m.ps m.is w2 (keeps_Pairs _ _ _ _ hb2 hp) (keeps_Intents _ _ _ _ hb2 hq) (by omega) (by omega)).mono ?_
  rintro _ w3 ⟨p', q', rfl, hop, hoq, hfp, hfq, hapart, hb3⟩
  have hR3 := hR2.below' hb3
  have hb3' := below_then hb2' hb3
  have h1p : p'.oneCell' = true := by obtain ⟨A, e⟩ := hop.slice; rw [e]; rfl
  have h1q : q'.oneCell' = true := by obtain ⟨A, e⟩ := hoq.slice; rw [e]; rfl
  refine stA hR3 (by exact sz58) (by rfl) (cells_one _ _ _ h1p h1q) ?_
  have hR4 := hR3.row (m.L.cells p' q')
  have hT4 : Turns (fun k => k = w.heap.size) w3 (w3.setRow w.heap.size (m.L.cells p' q')) := Turns.setRow (F := fun k => k = w.heap.size) (Turns.refl _ w3) (.inl rfl) _
  have hs2 := hR2.lt
  refine retA agg58 hR4 (by exact sz58) ?_
  have hs1 := hb2'.size
  refine ⟨p', q', rfl, hop.turns hT4 (fun k hk he => by have := hfp k hk; omega), hoq.turns hT4 (fun k hk he => by have := hfq k hk; omega), fun k hk => by have := hfp k hk; omega, fun k hk => by have := hfq k hk; omega, hapart, hb3'.trans (hT4.below (by have := hb3'.size; omega) fun k hk he => by omega)⟩
/-- x.Pairs[i].Key += "!", or .Val -/
theorem loopPairs {Q : World → Prop} {g f : Nat} {t1 t2 t3 t4 : Operand} {L : Let} {p q : Value} {ps : List PairT} {w : World} (hf : fofs Try.prog 64 f = some (f, 1)) (hf2 : f < 2)
    (hL : Blk w g 58 (L.cells p q)) (hp : OwnR 2 64 w p ps.length (ps.flatMap pairF)) (hsz : ∀ x ∈ ps, x.1.size ≤ 100000 ∧ x.2.1.size ≤ 100000) (hl : ps.length ≤ 1000) (hne : p.ownBlock ≠ some g)
    (k : ∀ w', Turns (fun j => p.ownBlock = some j) w w' → Q w') :
    LoopP (fun J vs w =>
    LiftP Try.prog (Instr.fieldAt 58 (.pointer (some ⟨g, 0, none⟩)) 9) (fun v45 w =>
    LiftP Try.prog (Instr.loadAt 55 v45) (fun v46 w =>
    NextP Try.prog (builtin Go.Builtin.len #[55] 3 #[false] #[v46]) (fun v47 w =>
    LiftP Try.prog (binS Go.BinOp.lss 3 t1 t2 (vs.headD undef) v47) (fun v48 w =>
    CondP v48 (fun w =>
      DrawP (fun S w =>
    YieldP Try.prog S (Instr.fieldAt 58 (.pointer (some ⟨g, 0, none⟩)) 9) (fun v51 w =>
    YieldP Try.prog S (Instr.loadAt 55 v51) (fun v52 w =>
    YieldP Try.prog S (Instr.fieldAt 58 (.pointer (some ⟨g, 0, none⟩)) 9) (fun v54 w =>
    YieldP Try.prog S (Instr.loadAt 55 v54) (fun v55 w =>
    YieldP Try.prog S (Instr.indexAt 55 v55 (vs.headD undef)) (fun v57 w =>
    YieldP Try.prog S (Instr.fieldAt 64 v57 f) (fun v58 w =>
    YieldP Try.prog S (Instr.loadAt 9 v58) (fun v59 w =>
    YieldP Try.prog S (binS Go.BinOp.add 9 t3 (Go.Operand.const (Go.Value.string { data := #[33] })) v59 (Go.Value.string { data := #[33] })) (fun v60 w =>
    YieldP Try.prog S (Instr.indexAt 55 v52 (vs.headD undef)) (fun v61 w =>
    YieldP Try.prog S (Instr.fieldAt 64 v61 f) (fun v62 w =>
    LiftU Try.prog (Instr.storeAt 9 v62 v60) (fun v__3 w =>
    LiftP Try.prog (binS Go.BinOp.add 3 t4 (Go.Operand.const (Go.Value.int Go.IntKind.i64 1)) (vs.headD undef) (Go.Value.int Go.IntKind.i64 1)) (fun v50 w =>
    J [v50] w) w) w) w) w) w) w) w) w) w) w) w) w) w) (fun w => Q w) w) w) w) w) w) [(Go.Value.int Go.IntKind.i64 0)] w := by
  obtain ⟨A, c, rfl, hnc, hm⟩ := hp.slice
  refine LoopP.inv1 (fun i w' => ∃ (k : Nat) (ps' : List PairT), k ≤ ps.length ∧ i = .int .i64 k ∧ ps'.length = ps.length ∧ (∀ x ∈ ps', x.1.size ≤ 100000 + k ∧ x.2.1.size ≤ 100000 + k) ∧ OwnR 2 64 w' (.slice A ps.length c) ps.length (ps'.flatMap pairF) ∧ Turns (fun j => (Value.slice A ps.length c).ownBlock = some j) w w') (fun i _ => ps.length - (intOf i).toNat) ⟨0, ps, by omega, rfl, rfl, hsz, hp, Turns.refl _ w⟩ ?_
  rintro _ w1 ⟨k0, ps', hk, rfl, hl', hsz', hp1, hT1⟩ J hJ
  dsimp only [List.headD_cons, List.tail_cons]
  have hL1 := hL.turns hT1 hne
  have c9 : w1.cell? ⟨g, 9, none⟩ = some (.slice A ps.length c) := hL1.cell 9
  (repeat (first | (with_reducible refine fd l9 (by decide) ?_) | (with_reducible refine ld one55 c9 ?_) | (with_reducible refine nck ?_) | (with_reducible refine cdT ?_) | (with_reducible refine cdF ?_) | (with_reducible refine gdY ?_) | (with_reducible refine gdFT ?_) | (with_reducible refine gdTF ?_) | (with_reducible refine gdU ?_) | (with_reducible refine gaY ?_) | (with_reducible refine gaFT ?_) | (with_reducible refine gaTF ?_) | (with_reducible refine pickT ?_) | (with_reducible refine pickF ?_) | (with_reducible refine bi_lss_t (by omega) ?_) | (with_reducible refine bi_lss_f (by omega) ?_) | (with_reducible refine bi_add64 (by omega) ?_) | (with_reducible refine bi_sub64 (by omega) ?_) | (with_reducible refine bi_eql_t (by omega) ?_) | (with_reducible refine bi_eql_f (by omega) ?_) | (with_reducible refine bi_neq_t (by omega) ?_) | (with_reducible refine bi_neq_f (by omega) ?_) | (with_reducible refine bi_gtr_t (by omega) ?_) | (with_reducible refine bi_gtr_f (by omega) ?_) | (with_reducible refine bi_leq_t (by omega) ?_) | (with_reducible refine bi_leq_f (by omega) ?_) | (with_reducible refine bi_geq_t (by omega) ?_) | (with_reducible refine bi_geq_f (by omega) ?_) | (with_reducible refine bi_xt0 ?_) | (with_reducible refine bi_xt1 ?_) | (with_reducible refine bi_xt2 ?_) | (with_reducible refine bi_xt3 ?_) | (with_reducible refine bi_T ?_) | (with_reducible refine bi_F ?_) | (with_reducible refine bi_not ?_) | (with_reducible refine bi_and ?_) | (with_reducible refine bi_or ?_) | (with_reducible refine bi_xor ?_) | (with_reducible refine bi_shr (by omega) (by decide) ?_) | (with_reducible refine bi_shl (by omega) (by decide) ?_) | (with_reducible refine bi_quo64 (by omega) ?_) | (with_reducible refine bi_rem64 (by omega) ?_) | (with_reducible refine bi_mul64 (by omega) ?_) | (with_reducible refine bi_neg ?_) | (with_reducible refine bi_un_xor32 ?_) | (with_reducible refine bi_add ?_) | (with_reducible refine bi_sub ?_) | (with_reducible refine bi_mul ?_) | (with_reducible refine bi_quo (by decide) ?_) | (with_reducible refine bi_rem (by decide) ?_)))
  refine ln und55 ?_
  refine bi_lss_c (fun h => ?_) (fun h => ?_)
  · have hk' : k0 < ps.length := by omega
    have hi : k0 < ps'.length := by omega
    obtain ⟨g2, u, rfl, hu, hcell, hfz⟩ := hp1.at (k0 * 2 + f) (by omega)
    have hat := flatMap_at pairF 2 (fun _ => rfl) ps' k0 f ps'[k0] (List.getElem?_eq_getElem hi) hf2
    rw [hu] at hat
    have hgg : g2 ≠ g := fun e => hne (by rw [e]; rfl)
    obtain ⟨s, rfl, hs, y, hy, hys⟩ : ∃ s : ByteArray, u = .string s ∧ s.size ≤ 100000 + k0 ∧ ∃ y : PairT, pairF y = (pairF ps'[k0]).set f (.string (s ++ ⟨#[33]⟩)) ∧ y.1.size ≤ 100000 + (k0 + 1) ∧ y.2.1.size ≤ 100000 + (k0 + 1) := by
      obtain ⟨z1, z2⟩ := hsz' _ (List.getElem_mem hi)
      have h1 : ∀ s : ByteArray, (s ++ ⟨#[33]⟩).size = s.size + 1 := fun s => by simp [ByteArray.size_append]; rfl
      rcases (show f = 0 ∨ f = 1 by omega) with rfl | rfl
      · refine ⟨ps'[k0].1, by simpa [pairF] using hat, z1, (ps'[k0].1 ++ ⟨#[33]⟩, ps'[k0].2.1, ()), rfl, ?_, ?_⟩
        · simp only [h1]; omega
        · simp only; omega
      · refine ⟨ps'[k0].2.1, by simpa [pairF] using hat, z2, (ps'[k0].1, ps'[k0].2.1 ++ ⟨#[33]⟩, ()), rfl, ?_, ?_⟩
        · simp only; omega
        · simp only [h1]; omega
    have hdr : Below w1.heap.size w1 w1.drew := (Below.refl _ _).drew
    have f9 : ∀ w', Below w1.heap.size w1 w' → w'.cell? ⟨g, 9, none⟩ = some (.slice (some ⟨g2, 0, none⟩) ps.length c) := fun w' h => (hL1.below' h).cell 9
    have ea : (⟨g2, 0, none⟩ : Addr).add (k0 * 2) = ⟨g2, k0 * 2, none⟩ := by rw [add0, Nat.zero_add]
    have fs : ∀ w', Below w1.heap.size w1 w' → w'.cell? ⟨g2, k0 * 2 + f, none⟩ = some (.string s) := fun w' hb => by rw [hb.cell (World.block_lt_of_cell? _ _ hcell), hcell]
    (repeat (first | (with_reducible refine nck ?_) | (with_reducible refine cdT ?_) | (with_reducible refine cdF ?_) | (with_reducible refine gdY ?_) | (with_reducible refine gdFT ?_) | (with_reducible refine gdTF ?_) | (with_reducible refine gdU ?_) | (with_reducible refine gaY ?_) | (with_reducible refine gaFT ?_) | (with_reducible refine gaTF ?_) | (with_reducible refine pickT ?_) | (with_reducible refine pickF ?_) | (with_reducible refine bi_lss_t (by omega) ?_) | (with_reducible refine bi_lss_f (by omega) ?_) | (with_reducible refine bi_add64 (by omega) ?_) | (with_reducible refine bi_sub64 (by omega) ?_) | (with_reducible refine bi_eql_t (by omega) ?_) | (with_reducible refine bi_eql_f (by omega) ?_) | (with_reducible refine bi_neq_t (by omega) ?_) | (with_reducible refine bi_neq_f (by omega) ?_) | (with_reducible refine bi_gtr_t (by omega) ?_) | (with_reducible refine bi_gtr_f (by omega) ?_) | (with_reducible refine bi_leq_t (by omega) ?_) | (with_reducible refine bi_leq_f (by omega) ?_) | (with_reducible refine bi_geq_t (by omega) ?_) | (with_reducible refine bi_geq_f (by omega) ?_) | (with_reducible refine bi_xt0 ?_) | (with_reducible refine bi_xt1 ?_) | (with_reducible refine bi_xt2 ?_) | (with_reducible refine bi_xt3 ?_) | (with_reducible refine bi_T ?_) | (with_reducible refine bi_F ?_) | (with_reducible refine bi_not ?_) | (with_reducible refine bi_and ?_) | (with_reducible refine bi_or ?_) | (with_reducible refine bi_xor ?_) | (with_reducible refine bi_shr (by omega) (by decide) ?_) | (with_reducible refine bi_shl (by omega) (by decide) ?_) | (with_reducible refine bi_quo64 (by omega) ?_) | (with_reducible refine bi_rem64 (by omega) ?_) | (with_reducible refine bi_mul64 (by omega) ?_) | (with_reducible refine bi_neg ?_) | (with_reducible refine bi_un_xor32 ?_) | (with_reducible refine bi_add ?_) | (with_reducible refine bi_sub ?_) | (with_reducible refine bi_mul ?_) | (with_reducible refine bi_quo (by decide) ?_) | (with_reducible refine bi_rem (by decide) ?_)))
    refine draw (Below w1.heap.size w1) hdr ?_
    (repeat (first | (with_reducible refine yfd l9 (by decide) ?_) | (with_reducible refine yl1 one55 f9 ?_) | (with_reducible refine ynck ?_) | (with_reducible refine nck ?_) | (with_reducible refine cdT ?_) | (with_reducible refine cdF ?_) | (with_reducible refine gdY ?_) | (with_reducible refine gdFT ?_) | (with_reducible refine gdTF ?_) | (with_reducible refine gdU ?_) | (with_reducible refine gaY ?_) | (with_reducible refine gaFT ?_) | (with_reducible refine gaTF ?_) | (with_reducible refine pickT ?_) | (with_reducible refine pickF ?_) | (with_reducible refine yi_lss_t (by omega) ?_) | (with_reducible refine yi_lss_f (by omega) ?_) | (with_reducible refine yi_add64 (by omega) ?_) | (with_reducible refine yi_sub64 (by omega) ?_) | (with_reducible refine yi_eql_t (by omega) ?_) | (with_reducible refine yi_eql_f (by omega) ?_) | (with_reducible refine yi_neq_t (by omega) ?_) | (with_reducible refine yi_neq_f (by omega) ?_) | (with_reducible refine yi_gtr_t (by omega) ?_) | (with_reducible refine yi_gtr_f (by omega) ?_) | (with_reducible refine yi_leq_t (by omega) ?_) | (with_reducible refine yi_leq_f (by omega) ?_) | (with_reducible refine yi_geq_t (by omega) ?_) | (with_reducible refine yi_geq_f (by omega) ?_) | (with_reducible refine yi_xt0 ?_) | (with_reducible refine yi_xt1 ?_) | (with_reducible refine yi_xt2 ?_) | (with_reducible refine yi_xt3 ?_) | (with_reducible refine yi_T ?_) | (with_reducible refine yi_F ?_) | (with_reducible refine yi_not ?_) | (with_reducible refine yi_and ?_) | (with_reducible refine yi_or ?_) | (with_reducible refine yi_xor ?_) | (with_reducible refine yi_shr (by omega) (by decide) ?_) | (with_reducible refine yi_shl (by omega) (by decide) ?_) | (with_reducible refine yi_quo64 (by omega) ?_) | (with_reducible refine yi_rem64 (by omega) ?_) | (with_reducible refine yi_mul64 (by omega) ?_) | (with_reducible refine yi_neg ?_) | (with_reducible refine yi_un_xor32 ?_) | (with_reducible refine yi_add ?_) | (with_reducible refine yi_sub ?_) | (with_reducible refine yi_mul ?_) | (with_reducible refine yi_quo (by decide) ?_) | (with_reducible refine yi_rem (by decide) ?_)))
    refine yixA und55 sz64 k0 hk' ?_
    rw [ea]
    refine yfdA hf (by decide) ?_
    rw [add0]
    refine yl1 one9 fs ?_
    refine yofPR (pr_sadd (by have : (⟨#[33]⟩ : ByteArray).size = 1 := rfl; omega)) ?_
    refine yixA und55 sz64 k0 hk' ?_
    rw [ea]
    refine yfdA hf (by decide) ?_
    rw [add0]
    have hp2 := hp1.below hdr
    refine st (w := w1.drew) sz9 rfl (by rw [fs _ hdr]; rfl) hfz ?_
    have hset := hp2.set (k0 * 2 + f) (.string (s ++ ⟨#[33]⟩))
    rw [flatMap_set pairF 2 (fun _ => rfl) ps' k0 f ps'[k0] y _ (List.getElem?_eq_getElem hi) hf2 hy] at hset
    (repeat (first | (with_reducible refine nck ?_) | (with_reducible refine cdT ?_) | (with_reducible refine cdF ?_) | (with_reducible refine gdY ?_) | (with_reducible refine gdFT ?_) | (with_reducible refine gdTF ?_) | (with_reducible refine gdU ?_) | (with_reducible refine gaY ?_) | (with_reducible refine gaFT ?_) | (with_reducible refine gaTF ?_) | (with_reducible refine pickT ?_) | (with_reducible refine pickF ?_) | (with_reducible refine bi_lss_t (by omega) ?_) | (with_reducible refine bi_lss_f (by omega) ?_) | (with_reducible refine bi_add64 (by omega) ?_) | (with_reducible refine bi_sub64 (by omega) ?_) | (with_reducible refine bi_eql_t (by omega) ?_) | (with_reducible refine bi_eql_f (by omega) ?_) | (with_reducible refine bi_neq_t (by omega) ?_) | (with_reducible refine bi_neq_f (by omega) ?_) | (with_reducible refine bi_gtr_t (by omega) ?_) | (with_reducible refine bi_gtr_f (by omega) ?_) | (with_reducible refine bi_leq_t (by omega) ?_) | (with_reducible refine bi_leq_f (by omega) ?_) | (with_reducible refine bi_geq_t (by omega) ?_) | (with_reducible refine bi_geq_f (by omega) ?_) | (with_reducible refine bi_xt0 ?_) | (with_reducible refine bi_xt1 ?_) | (with_reducible refine bi_xt2 ?_) | (with_reducible refine bi_xt3 ?_) | (with_reducible refine bi_T ?_) | (with_reducible refine bi_F ?_) | (with_reducible refine bi_not ?_) | (with_reducible refine bi_and ?_) | (with_reducible refine bi_or ?_) | (with_reducible refine bi_xor ?_) | (with_reducible refine bi_shr (by omega) (by decide) ?_) | (with_reducible refine bi_shl (by omega) (by decide) ?_) | (with_reducible refine bi_quo64 (by omega) ?_) | (with_reducible refine bi_rem64 (by omega) ?_) | (with_reducible refine bi_mul64 (by omega) ?_) | (with_reducible refine bi_neg ?_) | (with_reducible refine bi_un_xor32 ?_) | (with_reducible refine bi_add ?_) | (with_reducible refine bi_sub ?_) | (with_reducible refine bi_mul ?_) | (with_reducible refine bi_quo (by decide) ?_) | (with_reducible refine bi_rem (by decide) ?_)))
    refine hJ _ _ ⟨k0 + 1, ps'.set k0 y, by omega, by simp, by simpa using hl', fun x hx => ?_, hset, Turns.setCell (p := ⟨g2, k0 * 2 + f, none⟩) (hT1.then_below hdr) (.inl rfl) _⟩ (by simp [intOf]; omega)
    rcases List.mem_or_eq_of_mem_set hx with hx | rfl
    · have := hsz' x hx; omega
    · exact hys
  · (repeat (first | (with_reducible refine nck ?_) | (with_reducible refine cdT ?_) | (with_reducible refine cdF ?_) | (with_reducible refine gdY ?_) | (with_reducible refine gdFT ?_) | (with_reducible refine gdTF ?_) | (with_reducible refine gdU ?_) | (with_reducible refine gaY ?_) | (with_reducible refine gaFT ?_) | (with_reducible refine gaTF ?_) | (with_reducible refine pickT ?_) | (with_reducible refine pickF ?_) | (with_reducible refine bi_lss_t (by omega) ?_) | (with_reducible refine bi_lss_f (by omega) ?_) | (with_reducible refine bi_add64 (by omega) ?_) | (with_reducible refine bi_sub64 (by omega) ?_) | (with_reducible refine bi_eql_t (by omega) ?_) | (with_reducible refine bi_eql_f (by omega) ?_) | (with_reducible refine bi_neq_t (by omega) ?_) | (with_reducible refine bi_neq_f (by omega) ?_) | (with_reducible refine bi_gtr_t (by omega) ?_) | (with_reducible refine bi_gtr_f (by omega) ?_) | (with_reducible refine bi_leq_t (by omega) ?_) | (with_reducible refine bi_leq_f (by omega) ?_) | (with_reducible refine bi_geq_t (by omega) ?_) | (with_reducible refine bi_geq_f (by omega) ?_) | (with_reducible refine bi_xt0 ?_) | (with_reducible refine bi_xt1 ?_) | (with_reducible refine bi_xt2 ?_) | (with_reducible refine bi_xt3 ?_) | (with_reducible refine bi_T ?_) | (with_reducible refine bi_F ?_) | (with_reducible refine bi_not ?_) | (with_reducible refine bi_and ?_) | (with_reducible refine bi_or ?_) | (with_reducible refine bi_xor ?_) | (with_reducible refine bi_shr (by omega) (by decide) ?_) | (with_reducible refine bi_shl (by omega) (by decide) ?_) | (with_reducible refine bi_quo64 (by omega) ?_) | (with_reducible refine bi_rem64 (by omega) ?_) | (with_reducible refine bi_mul64 (by omega) ?_) | (with_reducible refine bi_neg ?_) | (with_reducible refine bi_un_xor32 ?_) | (with_reducible refine bi_add ?_) | (with_reducible refine bi_sub ?_) | (with_reducible refine bi_mul ?_) | (with_reducible refine bi_quo (by decide) ?_) | (with_reducible refine bi_rem (by decide) ?_)))
    exact k _ hT1
/-- x.Intents[i].Gone = !.. -/
theorem loopIntents {Q : World → Prop} {g : Nat} {t1 t2 t4 : Operand} {L : Let} {p q : Value} {is : List IntentT} {w : World}
    (hL : Blk w g 58 (L.cells p q)) (hq : OwnR 3 68 w q is.length (is.flatMap intentF)) (hl : is.length ≤ 1000) (hne : q.ownBlock ≠ some g)
    (k : ∀ w', Turns (fun j => q.ownBlock = some j) w w' → Q w') :
    LoopP (fun J vs w =>
    LiftP Try.prog (Instr.fieldAt 58 (.pointer (some ⟨g, 0, none⟩)) 10) (fun v95 w =>
    LiftP Try.prog (Instr.loadAt 56 v95) (fun v96 w =>
    NextP Try.prog (builtin Go.Builtin.len #[56] 3 #[false] #[v96]) (fun v97 w =>
    LiftP Try.prog (binS Go.BinOp.lss 3 t1 t2 (vs.headD undef) v97) (fun v98 w =>
    CondP v98 (fun w =>
      DrawP (fun S w =>
    YieldP Try.prog S (Instr.fieldAt 58 (.pointer (some ⟨g, 0, none⟩)) 10) (fun v101 w =>
    YieldP Try.prog S (Instr.loadAt 56 v101) (fun v102 w =>
    YieldP Try.prog S (Instr.fieldAt 58 (.pointer (some ⟨g, 0, none⟩)) 10) (fun v104 w =>
    YieldP Try.prog S (Instr.loadAt 56 v104) (fun v105 w =>
    YieldP Try.prog S (Instr.indexAt 56 v105 (vs.headD undef)) (fun v107 w =>
    YieldP Try.prog S (Instr.fieldAt 68 v107 2) (fun v108 w =>
    YieldP Try.prog S (Instr.loadAt 4 v108) (fun v109 w =>
    YieldP Try.prog S (Op.unary Go.UnOp.not v109) (fun v110 w =>
    YieldP Try.prog S (Instr.indexAt 56 v102 (vs.headD undef)) (fun v111 w =>
    YieldP Try.prog S (Instr.fieldAt 68 v111 2) (fun v112 w =>
    LiftU Try.prog (Instr.storeAt 4 v112 v110) (fun v__7 w =>
    LiftP Try.prog (binS Go.BinOp.add 3 t4 (Go.Operand.const (Go.Value.int Go.IntKind.i64 1)) (vs.headD undef) (Go.Value.int Go.IntKind.i64 1)) (fun v100 w =>
    J [v100] w) w) w) w) w) w) w) w) w) w) w) w) w) w) (fun w => Q w) w) w) w) w) w) [(Go.Value.int Go.IntKind.i64 0)] w := by
  obtain ⟨A, c, rfl, hnc, hm⟩ := hq.slice
  refine LoopP.inv1 (fun i w' => ∃ (k : Nat) (is' : List IntentT), k ≤ is.length ∧ i = .int .i64 k ∧ is'.length = is.length ∧ OwnR 3 68 w' (.slice A is.length c) is.length (is'.flatMap intentF) ∧ Turns (fun j => (Value.slice A is.length c).ownBlock = some j) w w') (fun i _ => is.length - (intOf i).toNat) ⟨0, is, by omega, rfl, rfl, hq, Turns.refl _ w⟩ ?_
  rintro _ w1 ⟨k0, is', hk, rfl, hl', hq1, hT1⟩ J hJ
  dsimp only [List.headD_cons, List.tail_cons]
  have hL1 := hL.turns hT1 hne
  have c10 : w1.cell? ⟨g, 10, none⟩ = some (.slice A is.length c) := hL1.cell 10
  (repeat (first | (with_reducible refine fd l10 (by decide) ?_) | (with_reducible refine ld one56 c10 ?_) | (with_reducible refine nck ?_) | (with_reducible refine cdT ?_) | (with_reducible refine cdF ?_) | (with_reducible refine gdY ?_) | (with_reducible refine gdFT ?_) | (with_reducible refine gdTF ?_) | (with_reducible refine gdU ?_) | (with_reducible refine gaY ?_) | (with_reducible refine gaFT ?_) | (with_reducible refine gaTF ?_) | (with_reducible refine pickT ?_) | (with_reducible refine pickF ?_) | (with_reducible refine bi_lss_t (by omega) ?_) | (with_reducible refine bi_lss_f (by omega) ?_) | (with_reducible refine bi_add64 (by omega) ?_) | (with_reducible refine bi_sub64 (by omega) ?_) | (with_reducible refine bi_eql_t (by omega) ?_) | (with_reducible refine bi_eql_f (by omega) ?_) | (with_reducible refine bi_neq_t (by omega) ?_) | (with_reducible refine bi_neq_f (by omega) ?_) | (with_reducible refine bi_gtr_t (by omega) ?_) | (with_reducible refine bi_gtr_f (by omega) ?_) | (with_reducible refine bi_leq_t (by omega) ?_) | (with_reducible refine bi_leq_f (by omega) ?_) | (with_reducible refine bi_geq_t (by omega) ?_) | (with_reducible refine bi_geq_f (by omega) ?_) | (with_reducible refine bi_xt0 ?_) | (with_reducible refine bi_xt1 ?_) | (with_reducible refine bi_xt2 ?_) | (with_reducible refine bi_xt3 ?_) | (with_reducible refine bi_T ?_) | (with_reducible refine bi_F ?_) | (with_reducible refine bi_not ?_) | (with_reducible refine bi_and ?_) | (with_reducible refine bi_or ?_) | (with_reducible refine bi_xor ?_) | (with_reducible refine bi_shr (by omega) (by decide) ?_) | (with_reducible refine bi_shl (by omega) (by decide) ?_) | (with_reducible refine bi_quo64 (by omega) ?_) | (with_reducible refine bi_rem64 (by omega) ?_) | (with_reducible refine bi_mul64 (by omega) ?_) | (with_reducible refine bi_neg ?_) | (with_reducible refine bi_un_xor32 ?_) | (with_reducible refine bi_add ?_) | (with_reducible refine bi_sub ?_) | (with_reducible refine bi_mul ?_) | (with_reducible refine bi_quo (by decide) ?_) | (with_reducible refine bi_rem (by decide) ?_)))
  refine ln und56 ?_
  refine bi_lss_c (fun h => ?_) (fun h => ?_)
  · have hk' : k0 < is.length := by omega
    have hi : k0 < is'.length := by omega
    obtain ⟨g2, u, rfl, hu, hcell, hfz⟩ := hq1.at (k0 * 3 + 2) (by omega)
    have hat := flatMap_at intentF 3 (fun _ => rfl) is' k0 2 is'[k0] (List.getElem?_eq_getElem hi) (by decide)
    rw [hu] at hat
    have hgg : g2 ≠ g := fun e => hne (by rw [e]; rfl)
    have hub : u = .bool is'[k0].2.2.1 := by simpa [intentF] using hat
    subst hub
    have hdr : Below w1.heap.size w1 w1.drew := (Below.refl _ _).drew
    have f10 : ∀ w', Below w1.heap.size w1 w' → w'.cell? ⟨g, 10, none⟩ = some (.slice (some ⟨g2, 0, none⟩) is.length c) := fun w' h => (hL1.below' h).cell 10
    have ea : (⟨g2, 0, none⟩ : Addr).add (k0 * 3) = ⟨g2, k0 * 3, none⟩ := by rw [add0, Nat.zero_add]
    have fs : ∀ w', Below w1.heap.size w1 w' → w'.cell? ⟨g2, k0 * 3 + 2, none⟩ = some (.bool is'[k0].2.2.1) := fun w' hb => by rw [hb.cell (World.block_lt_of_cell? _ _ hcell), hcell]
    (repeat (first | (with_reducible refine nck ?_) | (with_reducible refine cdT ?_) | (with_reducible refine cdF ?_) | (with_reducible refine gdY ?_) | (with_reducible refine gdFT ?_) | (with_reducible refine gdTF ?_) | (with_reducible refine gdU ?_) | (with_reducible refine gaY ?_) | (with_reducible refine gaFT ?_) | (with_reducible refine gaTF ?_) | (with_reducible refine pickT ?_) | (with_reducible refine pickF ?_) | (with_reducible refine bi_lss_t (by omega) ?_) | (with_reducible refine bi_lss_f (by omega) ?_) | (with_reducible refine bi_add64 (by omega) ?_) | (with_reducible refine bi_sub64 (by omega) ?_) | (with_reducible refine bi_eql_t (by omega) ?_) | (with_reducible refine bi_eql_f (by omega) ?_) | (with_reducible refine bi_neq_t (by omega) ?_) | (with_reducible refine bi_neq_f (by omega) ?_) | (with_reducible refine bi_gtr_t (by omega) ?_) | (with_reducible refine bi_gtr_f (by omega) ?_) | (with_reducible refine bi_leq_t (by omega) ?_) | (with_reducible refine bi_leq_f (by omega) ?_) | (with_reducible refine bi_geq_t (by omega) ?_) | (with_reducible refine bi_geq_f (by omega) ?_) | (with_reducible refine bi_xt0 ?_) | (with_reducible refine bi_xt1 ?_) | (with_reducible refine bi_xt2 ?_) | (with_reducible refine bi_xt3 ?_) | (with_reducible refine bi_T ?_) | (with_reducible refine bi_F ?_) | (with_reducible refine bi_not ?_) | (with_reducible refine bi_and ?_) | (with_reducible refine bi_or ?_) | (with_reducible refine bi_xor ?_) | (with_reducible refine bi_shr (by omega) (by decide) ?_) | (with_reducible refine bi_shl (by omega) (by decide) ?_) | (with_reducible refine bi_quo64 (by omega) ?_) | (with_reducible refine bi_rem64 (by omega) ?_) | (with_reducible refine bi_mul64 (by omega) ?_) | (with_reducible refine bi_neg ?_) | (with_reducible refine bi_un_xor32 ?_) | (with_reducible refine bi_add ?_) | (with_reducible refine bi_sub ?_) | (with_reducible refine bi_mul ?_) | (with_reducible refine bi_quo (by decide) ?_) | (with_reducible refine bi_rem (by decide) ?_)))
    refine draw (Below w1.heap.size w1) hdr ?_
    (repeat (first | (with_reducible refine yfd l10 (by decide) ?_) | (with_reducible refine yl1 one56 f10 ?_) | (with_reducible refine ynck ?_) | (with_reducible refine nck ?_) | (with_reducible refine cdT ?_) | (with_reducible refine cdF ?_) | (with_reducible refine gdY ?_) | (with_reducible refine gdFT ?_) | (with_reducible refine gdTF ?_) | (with_reducible refine gdU ?_) | (with_reducible refine gaY ?_) | (with_reducible refine gaFT ?_) | (with_reducible refine gaTF ?_) | (with_reducible refine pickT ?_) | (with_reducible refine pickF ?_) | (with_reducible refine yi_lss_t (by omega) ?_) | (with_reducible refine yi_lss_f (by omega) ?_) | (with_reducible refine yi_add64 (by omega) ?_) | (with_reducible refine yi_sub64 (by omega) ?_) | (with_reducible refine yi_eql_t (by omega) ?_) | (with_reducible refine yi_eql_f (by omega) ?_) | (with_reducible refine yi_neq_t (by omega) ?_) | (with_reducible refine yi_neq_f (by omega) ?_) | (with_reducible refine yi_gtr_t (by omega) ?_) | (with_reducible refine yi_gtr_f (by omega) ?_) | (with_reducible refine yi_leq_t (by omega) ?_) | (with_reducible refine yi_leq_f (by omega) ?_) | (with_reducible refine yi_geq_t (by omega) ?_) | (with_reducible refine yi_geq_f (by omega) ?_) | (with_reducible refine yi_xt0 ?_) | (with_reducible refine yi_xt1 ?_) | (with_reducible refine yi_xt2 ?_) | (with_reducible refine yi_xt3 ?_) | (with_reducible refine yi_T ?_) | (with_reducible refine yi_F ?_) | (with_reducible refine yi_not ?_) | (with_reducible refine yi_and ?_) | (with_reducible refine yi_or ?_) | (with_reducible refine yi_xor ?_) | (with_reducible refine yi_shr (by omega) (by decide) ?_) | (with_reducible refine yi_shl (by omega) (by decide) ?_) | (with_reducible refine yi_quo64 (by omega) ?_) | (with_reducible refine yi_rem64 (by omega) ?_) | (with_reducible refine yi_mul64 (by omega) ?_) | (with_reducible refine yi_neg ?_) | (with_reducible refine yi_un_xor32 ?_) | (with_reducible refine yi_add ?_) | (with_reducible refine yi_sub ?_) | (with_reducible refine yi_mul ?_) | (with_reducible refine yi_quo (by decide) ?_) | (with_reducible refine yi_rem (by decide) ?_)))
    refine yixA und56 sz68 k0 hk' ?_
    rw [ea]
    refine yfdA q2' (by decide) ?_
    rw [add0]
    refine yl1 one4 fs ?_
    refine yld (v := .bool (!is'[k0].2.2.1)) (fun _ _ => rfl) ?_
    refine yixA und56 sz68 k0 hk' ?_
    rw [ea]
    refine yfdA q2' (by decide) ?_
    rw [add0]
    have hq2 := hq1.below hdr
    refine st (w := w1.drew) sz4 rfl (by rw [fs _ hdr]; rfl) hfz ?_
    have hset := hq2.set (k0 * 3 + 2) (.bool (!is'[k0].2.2.1))
    rw [flatMap_set intentF 3 (fun _ => rfl) is' k0 2 is'[k0] (is'[k0].1, is'[k0].2.1, !is'[k0].2.2.1, ()) _ (List.getElem?_eq_getElem hi) (by decide) rfl] at hset
    (repeat (first | (with_reducible refine nck ?_) | (with_reducible refine cdT ?_) | (with_reducible refine cdF ?_) | (with_reducible refine gdY ?_) | (with_reducible refine gdFT ?_) | (with_reducible refine gdTF ?_) | (with_reducible refine gdU ?_) | (with_reducible refine gaY ?_) | (with_reducible refine gaFT ?_) | (with_reducible refine gaTF ?_) | (with_reducible refine pickT ?_) | (with_reducible refine pickF ?_) | (with_reducible refine bi_lss_t (by omega) ?_) | (with_reducible refine bi_lss_f (by omega) ?_) | (with_reducible refine bi_add64 (by omega) ?_) | (with_reducible refine bi_sub64 (by omega) ?_) | (with_reducible refine bi_eql_t (by omega) ?_) | (with_reducible refine bi_eql_f (by omega) ?_) | (with_reducible refine bi_neq_t (by omega) ?_) | (with_reducible refine bi_neq_f (by omega) ?_) | (with_reducible refine bi_gtr_t (by omega) ?_) | (with_reducible refine bi_gtr_f (by omega) ?_) | (with_reducible refine bi_leq_t (by omega) ?_) | (with_reducible refine bi_leq_f (by omega) ?_) | (with_reducible refine bi_geq_t (by omega) ?_) | (with_reducible refine bi_geq_f (by omega) ?_) | (with_reducible refine bi_xt0 ?_) | (with_reducible refine bi_xt1 ?_) | (with_reducible refine bi_xt2 ?_) | (with_reducible refine bi_xt3 ?_) | (with_reducible refine bi_T ?_) | (with_reducible refine bi_F ?_) | (with_reducible refine bi_not ?_) | (with_reducible refine bi_and ?_) | (with_reducible refine bi_or ?_) | (with_reducible refine bi_xor ?_) | (with_reducible refine bi_shr (by omega) (by decide) ?_) | (with_reducible refine bi_shl (by omega) (by decide) ?_) | (with_reducible refine bi_quo64 (by omega) ?_) | (with_reducible refine bi_rem64 (by omega) ?_) | (with_reducible refine bi_mul64 (by omega) ?_) | (with_reducible refine bi_neg ?_) | (with_reducible refine bi_un_xor32 ?_) | (with_reducible refine bi_add ?_) | (with_reducible refine bi_sub ?_) | (with_reducible refine bi_mul ?_) | (with_reducible refine bi_quo (by decide) ?_) | (with_reducible refine bi_rem (by decide) ?_)))
    exact hJ _ _ ⟨k0 + 1, is'.set k0 _, by omega, by simp, by simpa using hl', hset, Turns.setCell (p := ⟨g2, k0 * 3 + 2, none⟩) (hT1.then_below hdr) (.inl rfl) _⟩ (by simp [intOf]; omega)
  · (repeat (first | (with_reducible refine nck ?_) | (with_reducible refine cdT ?_) | (with_reducible refine cdF ?_) | (with_reducible refine gdY ?_) | (with_reducible refine gdFT ?_) | (with_reducible refine gdTF ?_) | (with_reducible refine gdU ?_) | (with_reducible refine gaY ?_) | (with_reducible refine gaFT ?_) | (with_reducible refine gaTF ?_) | (with_reducible refine pickT ?_) | (with_reducible refine pickF ?_) | (with_reducible refine bi_lss_t (by omega) ?_) | (with_reducible refine bi_lss_f (by omega) ?_) | (with_reducible refine bi_add64 (by omega) ?_) | (with_reducible refine bi_sub64 (by omega) ?_) | (with_reducible refine bi_eql_t (by omega) ?_) | (with_reducible refine bi_eql_f (by omega) ?_) | (with_reducible refine bi_neq_t (by omega) ?_) | (with_reducible refine bi_neq_f (by omega) ?_) | (with_reducible refine bi_gtr_t (by omega) ?_) | (with_reducible refine bi_gtr_f (by omega) ?_) | (with_reducible refine bi_leq_t (by omega) ?_) | (with_reducible refine bi_leq_f (by omega) ?_) | (with_reducible refine bi_geq_t (by omega) ?_) | (with_reducible refine bi_geq_f (by omega) ?_) | (with_reducible refine bi_xt0 ?_) | (with_reducible refine bi_xt1 ?_) | (with_reducible refine bi_xt2 ?_) | (with_reducible refine bi_xt3 ?_) | (with_reducible refine bi_T ?_) | (with_reducible refine bi_F ?_) | (with_reducible refine bi_not ?_) | (with_reducible refine bi_and ?_) | (with_reducible refine bi_or ?_) | (with_reducible refine bi_xor ?_) | (with_reducible refine bi_shr (by omega) (by decide) ?_) | (with_reducible refine bi_shl (by omega) (by decide) ?_) | (with_reducible refine bi_quo64 (by omega) ?_) | (with_reducible refine bi_rem64 (by omega) ?_) | (with_reducible refine bi_mul64 (by omega) ?_) | (with_reducible refine bi_neg ?_) | (with_reducible refine bi_un_xor32 ?_) | (with_reducible refine bi_add ?_) | (with_reducible refine bi_sub ?_) | (with_reducible refine bi_mul ?_) | (with_reducible refine bi_quo (by decide) ?_) | (with_reducible refine bi_rem (by decide) ?_)))
    exact k _ hT1
end Go.Proofs.Ythicbfopjakiiaa.E
