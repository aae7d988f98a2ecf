import Derived.Test.YthicbfopjakiiaaMf
import Derived.Test.YthicbfopjakiiaaMb
import Derived.Laws.StructEq
namespace Go.Proofs.Ythicbfopjakiiaa.E
open Go Go.RowKit
set_option linter.unusedSimpArgs false
set_option linter.unusedVariables false

theorem und4 : Try.prog.underlying 4 = some .bool := by kernel_rfl
def flat1L : TypeDesc → Bool
  | .struct _ | .array _ _ => false
  | _ => true
theorem isAgg1L {t : TypeId} {d : TypeDesc} (h : Try.prog.underlying t = some d) (hd : flat1L d = true) (w : World) : (isAgg t).run Try.prog w = .ok false w := by
  unfold isAgg
  rw [Sem.run_bind, run_underlying h w]
  cases d <;> simp_all [flat1L]
theorem part1L {t : TypeId} {d : TypeDesc} (h : Try.prog.underlying t = some d) (hd : flat1L d = true) (cs : Array Value) (o : Nat) (v : Value) (hv : cs[o]? = some v) (w : World) : (part t cs o).run Try.prog w = .ok v w := by
  unfold part
  rw [Sem.run_bind, isAgg1L h hd]
  simp [hv]
theorem eqFields_consL {f : Field} {fs : List Field} {d : Nat} {xs : Array Value} {w : World} {dd : TypeDesc} {u : Value} (hn : f.name ≠ "_") (h : Try.prog.underlying f.type = some dd) (hd : flat1L dd = true) (hx : xs[f.offset]? = some u)
    (he : (Op.equalIn d f.type u u).run Try.prog w = .ok true w) (hr : (Op.eqFields d xs xs fs).run Try.prog w = .ok true w) : (Op.eqFields d xs xs (f :: fs)).run Try.prog w = .ok true w := by
  simp only [Op.eqFields, Sem.run_bind, Sem.run_ite, hn, ne_eq, not_false_eq_true, if_true]
  simp [part1L h hd xs _ u hx, he, hr]
theorem neq_agg {t : TypeId} {x y : Operand} {xs : Array Value} (hg : Try.prog.eqGuardType Try.prog.depth t = false) (hs : Try.prog.underlying t = some (.struct (Try.prog.fieldsOf t))) (hh : Try.prog.stoodInHeld t = false)
    (hf : ∀ w, (Op.eqFields 9999 xs xs (Try.prog.fieldsOf t).toList).run Try.prog w = .ok true w) : PR Try.prog (binS .neq t x y (.agg xs) (.agg xs)) (.bool false) := by
  intro w
  simp only [binS, Sem.run_bind, run_eqGuard_agg w .neq t x y xs xs hg, Result.andThen_ok]
  rw [run_neq_struct, run_equalIn_agg w 9999 t xs xs hs hh, hf]
  rfl
theorem neq64 {x y : Operand} (a b : ByteArray) : PR Try.prog (binS .neq 64 x y (.agg #[.string a, .string b]) (.agg #[.string a, .string b])) (.bool false) := by
  refine neq_agg (by kernel_rfl) (by kernel_rfl) (by kernel_rfl) fun w => ?_
  have e : (Try.prog.fieldsOf 64).toList = [(Try.prog.fieldsOf 64)[0]!, (Try.prog.fieldsOf 64)[1]!] := by kernel_rfl
  rw [e]
  have t0 : ((Try.prog.fieldsOf 64)[0]!).type = 9 := by kernel_rfl
  have t1 : ((Try.prog.fieldsOf 64)[1]!).type = 9 := by kernel_rfl
  have o0 : ((Try.prog.fieldsOf 64)[0]!).offset = 0 := by kernel_rfl
  have o1 : ((Try.prog.fieldsOf 64)[1]!).offset = 1 := by kernel_rfl
  refine eqFields_consL (by decide +kernel) (by rw [t0]; exact und9) rfl (u := .string a) (by rw [o0]; rfl) (by rw [t0, run_equalIn_string w 9998 9 a a und9]; simp) ?_
  refine eqFields_consL (by decide +kernel) (by rw [t1]; exact und9) rfl (u := .string b) (by rw [o1]; rfl) (by rw [t1, run_equalIn_string w 9998 9 b b und9]; simp) ?_
  simp [Op.eqFields]
theorem neq68 {x y : Operand} (a : ByteArray) (n : Int) (b : Bool) : PR Try.prog (binS .neq 68 x y (.agg #[.string a, .int .i64 n, .bool b]) (.agg #[.string a, .int .i64 n, .bool b])) (.bool false) := by
  refine neq_agg (by kernel_rfl) (by kernel_rfl) (by kernel_rfl) fun w => ?_
  have e : (Try.prog.fieldsOf 68).toList = [(Try.prog.fieldsOf 68)[0]!, (Try.prog.fieldsOf 68)[1]!, (Try.prog.fieldsOf 68)[2]!] := by kernel_rfl
  rw [e]
  have t0 : ((Try.prog.fieldsOf 68)[0]!).type = 9 := by kernel_rfl
  have t1 : ((Try.prog.fieldsOf 68)[1]!).type = 3 := by kernel_rfl
  have t2 : ((Try.prog.fieldsOf 68)[2]!).type = 4 := by kernel_rfl
  have o0 : ((Try.prog.fieldsOf 68)[0]!).offset = 0 := by kernel_rfl
  have o1 : ((Try.prog.fieldsOf 68)[1]!).offset = 1 := by kernel_rfl
  have o2 : ((Try.prog.fieldsOf 68)[2]!).offset = 2 := by kernel_rfl
  refine eqFields_consL (by decide +kernel) (by rw [t0]; exact und9) rfl (u := .string a) (by rw [o0]; rfl) (by rw [t0, run_equalIn_string w 9998 9 a a und9]; simp) ?_
  refine eqFields_consL (by decide +kernel) (by rw [t1]; exact und3) rfl (u := .int .i64 n) (by rw [o1]; rfl) (by rw [t1, run_equalIn_int w 9998 3 .i64 .i64 n n und3]; simp) ?_
  refine eqFields_consL (by decide +kernel) (by rw [t2]; exact und4) rfl (u := .bool b) (by rw [o2]; rfl) (by rw [t2, run_equalIn_bool' w 9998 4 b b und4]; simp) ?_
  simp [Op.eqFields]
section
variable {P : Program} {K : Value → World → Prop} {S : World → Prop} {w : World}
theorem ylns {t ty : TypeId} (h : P.underlying t = some .string) {cs : Array Bool} {s : ByteArray} (k : K (.int .i64 s.size) w) : YieldN P S (builtin .len #[t] ty cs #[.string s]) K w :=
  yldN (v := .int .i64 s.size) (fun w' _ => by
    have := run_len_string (P := P) w' t ty s h
    simp only [builtin] at this ⊢
    simp [this, goInt]) k
end
theorem und81 : Try.prog.underlying 81 = some (.slice 3) := by kernel_rfl
theorem SameIntents_spec (v u : Value) (is : List IntentT) (w : World) (hv : Intents w [v] is) (hu : Intents w [u] is) : CallP Try.prog 62 #[v, u] (fun r w' => r = .bool true ∧ Below w.heap.size w w') w := by
  obtain ⟨A, c, rfl, hc, hm⟩ := hv.slice
  obtain ⟨A', c', rfl, hc', hm'⟩ := hu.slice
  refine ⟨S62.calls _ _ _ _ ?_⟩
  unfold S62
  refine ln und56 ?_
  refine ln und56 ?_
  (repeat with_reducible first|refine z_a ?_|refine z_b ?_|refine z_c ?_|refine z_d ?_|refine z_e ?_|refine z_f ?_|refine z_g ?_|refine z_h ?_|refine z_i ?_|refine z_j ?_|refine z_k ?_|refine z_l ?_|refine z_m (by omega) ?_|refine z_n (by omega) ?_|refine z_o (by omega) ?_|refine z_p (by omega) ?_|refine z_q (by omega) ?_|refine z_r (by omega) ?_|refine z_s (by omega) ?_|refine z_t (by omega) ?_|refine z_u (by omega) ?_|refine z_v (by omega) ?_|refine z_w (by omega) ?_|refine z_x (by omega) ?_|refine z_y (by omega) ?_|refine z_z (by omega) ?_|refine z_A ?_|refine z_B ?_|refine z_C ?_|refine z_D ?_|refine z_E ?_|refine z_F ?_|refine z_G ?_|refine z_H ?_|refine z_I ?_|refine z_J ?_|refine z_K (by omega) (by decide) ?_|refine z_L (by omega) (by decide) ?_|refine z_M (by omega) ?_|refine z_N (by omega) ?_|refine z_O (by omega) ?_|refine z_P ?_|refine z_Q ?_|refine z_R ?_|refine z_S ?_|refine z_T ?_|refine z_U (by decide) ?_|refine z_V (by decide) ?_)
  refine LoopP.inv1 (fun i w' => ∃ k : Nat, k ≤ is.length ∧ i = .int .i64 k ∧ Below w.heap.size w w') (fun i _ => is.length - (intOf i).toNat) ⟨0, by omega, rfl, Below.refl _ w⟩ ?_
  rintro _ w1 ⟨k, hk, rfl, hb1⟩ J hJ
  dsimp only [List.headD_cons, List.tail_cons]
  refine ln und56 ?_
  refine bi_lss_c (fun h => ?_) (fun h => ?_)
  · have hk' : k < is.length := by omega
    have hdr : Below w1.heap.size w1 w1.drew := (Below.refl _ _).drew
    obtain ⟨a, us, rfl, hus, hcell, hrd⟩ := rRow.at (keeps_Intents _ _ _ _ hb1 hv) k hk'
    obtain ⟨rfl, _⟩ := intent_cells hrd
    obtain ⟨a', us', rfl, hus', hcell', hrd'⟩ := rRow.at (keeps_Intents _ _ _ _ hb1 hu) k hk'
    obtain ⟨rfl, _⟩ := intent_cells hrd'
    have keep : ∀ {a : Addr} {us : List Value}, (∀ j u, us[j]? = some u → w1.cell? (a.add j) = some u) → ∀ w', Below w1.heap.size w1 w' → ∀ j u, us[j]? = some u → w'.cell? (a.add j) = some u := fun h w' hb j u hu => by rw [hb.cell (World.block_lt_of_cell? _ _ (h j u hu)), h j u hu]
    (repeat with_reducible first|refine z_a ?_|refine z_b ?_|refine z_c ?_|refine z_d ?_|refine z_e ?_|refine z_f ?_|refine z_g ?_|refine z_h ?_|refine z_i ?_|refine z_j ?_|refine z_k ?_|refine z_l ?_|refine z_m (by omega) ?_|refine z_n (by omega) ?_|refine z_o (by omega) ?_|refine z_p (by omega) ?_|refine z_q (by omega) ?_|refine z_r (by omega) ?_|refine z_s (by omega) ?_|refine z_t (by omega) ?_|refine z_u (by omega) ?_|refine z_v (by omega) ?_|refine z_w (by omega) ?_|refine z_x (by omega) ?_|refine z_y (by omega) ?_|refine z_z (by omega) ?_|refine z_A ?_|refine z_B ?_|refine z_C ?_|refine z_D ?_|refine z_E ?_|refine z_F ?_|refine z_G ?_|refine z_H ?_|refine z_I ?_|refine z_J ?_|refine z_K (by omega) (by decide) ?_|refine z_L (by omega) (by decide) ?_|refine z_M (by omega) ?_|refine z_N (by omega) ?_|refine z_O (by omega) ?_|refine z_P ?_|refine z_Q ?_|refine z_R ?_|refine z_S ?_|refine z_T ?_|refine z_U (by decide) ?_|refine z_V (by decide) ?_)
    refine draw (Below w1.heap.size w1) hdr ?_
    refine yixA und56 sz68 k hk' ?_
    refine yldR agg68 (keep hcell) (by rw [sz68]; rfl) ?_
    refine yixA und56 sz68 k hk' ?_
    refine yldR agg68 (keep hcell') (by rw [sz68]; rfl) ?_
    refine yofPR (neq68 is[k].1 is[k].2.1 is[k].2.2.1) ?_
    (repeat with_reducible first|refine z_a ?_|refine z_b ?_|refine z_c ?_|refine z_d ?_|refine z_e ?_|refine z_f ?_|refine z_g ?_|refine z_h ?_|refine z_i ?_|refine z_j ?_|refine z_k ?_|refine z_l ?_|refine z_m (by omega) ?_|refine z_n (by omega) ?_|refine z_o (by omega) ?_|refine z_p (by omega) ?_|refine z_q (by omega) ?_|refine z_r (by omega) ?_|refine z_s (by omega) ?_|refine z_t (by omega) ?_|refine z_u (by omega) ?_|refine z_v (by omega) ?_|refine z_w (by omega) ?_|refine z_x (by omega) ?_|refine z_y (by omega) ?_|refine z_z (by omega) ?_|refine z_A ?_|refine z_B ?_|refine z_C ?_|refine z_D ?_|refine z_E ?_|refine z_F ?_|refine z_G ?_|refine z_H ?_|refine z_I ?_|refine z_J ?_|refine z_K (by omega) (by decide) ?_|refine z_L (by omega) (by decide) ?_|refine z_M (by omega) ?_|refine z_N (by omega) ?_|refine z_O (by omega) ?_|refine z_P ?_|refine z_Q ?_|refine z_R ?_|refine z_S ?_|refine z_T ?_|refine z_U (by decide) ?_|refine z_V (by decide) ?_)
    exact hJ _ _ ⟨k + 1, by omega, by simp, below_then hb1 hdr⟩ (by simp [intOf]; omega)
  · (repeat with_reducible first|refine z_a ?_|refine z_b ?_|refine z_c ?_|refine z_d ?_|refine z_e ?_|refine z_f ?_|refine z_g ?_|refine z_h ?_|refine z_i ?_|refine z_j ?_|refine z_k ?_|refine z_l ?_|refine z_m (by omega) ?_|refine z_n (by omega) ?_|refine z_o (by omega) ?_|refine z_p (by omega) ?_|refine z_q (by omega) ?_|refine z_r (by omega) ?_|refine z_s (by omega) ?_|refine z_t (by omega) ?_|refine z_u (by omega) ?_|refine z_v (by omega) ?_|refine z_w (by omega) ?_|refine z_x (by omega) ?_|refine z_y (by omega) ?_|refine z_z (by omega) ?_|refine z_A ?_|refine z_B ?_|refine z_C ?_|refine z_D ?_|refine z_E ?_|refine z_F ?_|refine z_G ?_|refine z_H ?_|refine z_I ?_|refine z_J ?_|refine z_K (by omega) (by decide) ?_|refine z_L (by omega) (by decide) ?_|refine z_M (by omega) ?_|refine z_N (by omega) ?_|refine z_O (by omega) ?_|refine z_P ?_|refine z_Q ?_|refine z_R ?_|refine z_S ?_|refine z_T ?_|refine z_U (by decide) ?_|refine z_V (by decide) ?_)
    exact ⟨rfl, hb1⟩
theorem numbers63_spec (L : Let) (p q : Value) (w : World) : CallP Try.prog 63 #[.agg (L.cells p q)] (fun r w' => (∃ A c, r = .slice A 7 c) ∧ Rd w' r (([L.frm, L.to, L.a, L.b, L.c, L.d, L.code] : List Int).map (Value.int .i64)) ∧ Below w.heap.size w w') w := by
  refine ⟨S63.calls _ _ _ ?_⟩
  unfold S63
  refine bx ?_
  have hL : Blk (w.alloc (.cells (Value.agg (L.cells p q)).cells 58)) w.heap.size 58 (L.cells p q) := Blk.new w 58 _
  have ha := (Below.refl w.heap.size w).alloc (Nat.le_refl _) (.cells (Value.agg (L.cells p q)).cells 58)
  generalize w.alloc (.cells (Value.agg (L.cells p q)).cells 58) = w1 at *
  have c1 : w1.cell? ⟨w.heap.size, 1, none⟩ = some (.int .i64 L.frm) := hL.cell 1
  have c2 : w1.cell? ⟨w.heap.size, 2, none⟩ = some (.int .i64 L.to) := hL.cell 2
  have c3 : w1.cell? ⟨w.heap.size, 3, none⟩ = some (.int .i64 L.a) := hL.cell 3
  have c4 : w1.cell? ⟨w.heap.size, 4, none⟩ = some (.int .i64 L.b) := hL.cell 4
  have c5 : w1.cell? ⟨w.heap.size, 5, none⟩ = some (.int .i64 L.c) := hL.cell 5
  have c6 : w1.cell? ⟨w.heap.size, 6, none⟩ = some (.int .i64 L.d) := hL.cell 6
  have c11 : w1.cell? ⟨w.heap.size, 11, none⟩ = some (.int .i64 L.code) := hL.cell 11
  (repeat with_reducible first | refine fd l1 (by decide) ?_| refine fd l2 (by decide) ?_| refine fd l3 (by decide) ?_| refine fd l4 (by decide) ?_| refine fd l5 (by decide) ?_| refine fd l6 (by decide) ?_| refine fd l11 (by decide) ?_| refine ld one3 c1 ?_| refine ld one3 c2 ?_| refine ld one3 c3 ?_| refine ld one3 c4 ?_| refine ld one3 c5 ?_| refine ld one3 c6 ?_| refine ld one25 c11 ?_|refine z_a ?_|refine z_b ?_|refine z_c ?_|refine z_d ?_|refine z_e ?_|refine z_f ?_|refine z_g ?_|refine z_h ?_|refine z_i ?_|refine z_j ?_|refine z_k ?_|refine z_l ?_|refine z_m (by omega) ?_|refine z_n (by omega) ?_|refine z_o (by omega) ?_|refine z_p (by omega) ?_|refine z_q (by omega) ?_|refine z_r (by omega) ?_|refine z_s (by omega) ?_|refine z_t (by omega) ?_|refine z_u (by omega) ?_|refine z_v (by omega) ?_|refine z_w (by omega) ?_|refine z_x (by omega) ?_|refine z_y (by omega) ?_|refine z_z (by omega) ?_|refine z_A ?_|refine z_B ?_|refine z_C ?_|refine z_D ?_|refine z_E ?_|refine z_F ?_|refine z_G ?_|refine z_H ?_|refine z_I ?_|refine z_J ?_|refine z_K (by omega) (by decide) ?_|refine z_L (by omega) (by decide) ?_|refine z_M (by omega) ?_|refine z_N (by omega) ?_|refine z_O (by omega) ?_|refine z_P ?_|refine z_Q ?_|refine z_R ?_|refine z_S ?_|refine z_T ?_|refine z_U (by decide) ?_|refine z_V (by decide) ?_)
  refine lift (v := .slice (some ⟨w1.heap.size, 0, none⟩) 7 7) (w' := w1.alloc (.cells #[.int .i64 L.frm, .int .i64 L.to, .int .i64 L.a, .int .i64 L.b, .int .i64 L.c, .int .i64 L.d, .int .i64 L.code] 3)) (by kernel_rfl) ?_
  have ha2 := (Below.refl w1.heap.size w1).alloc (Nat.le_refl _) (.cells #[.int .i64 L.frm, .int .i64 L.to, .int .i64 L.a, .int .i64 L.b, .int .i64 L.c, .int .i64 L.d, .int .i64 L.code] 3)
  exact ⟨⟨_, _, rfl⟩, (Own.new w1 3 [.int .i64 L.frm, .int .i64 L.to, .int .i64 L.a, .int .i64 L.b, .int .i64 L.c, .int .i64 L.d, .int .i64 L.code] (by simp)).rd, below_then ha ha2⟩
end Go.Proofs.Ythicbfopjakiiaa.E
namespace Go.Proofs.Ythicbfopjakiiaa.E
open Go Go.RowKit
set_option linter.unusedSimpArgs false
set_option linter.unusedVariables false

theorem refSame_spec (L : Let) (p q p' q' : Value) (ps : List PairT) (is : List IntentT) (w : World) (hp : Pairs w [p] ps) (hq : Intents w [q] is) (hp' : Pairs w [p'] ps) (hq' : Intents w [q'] is) :
    CallP Try.prog 36 #[.agg (L.cells p q), .agg (L.cells p' q')] (fun r w' => r = .bool true ∧ Below w.heap.size w w') w := by
  obtain ⟨A, cA, rfl, _, hmA⟩ := hp.slice
  obtain ⟨A', cA', rfl, _, _⟩ := hq.slice
  obtain ⟨B, cB, rfl, _, _⟩ := hp'.slice
  obtain ⟨B', cB', rfl, _, _⟩ := hq'.slice
  refine ⟨S36.calls _ _ _ _ ?_⟩
  unfold S36
  refine bx ?_
  have hL : Blk (w.alloc (.cells (Value.agg (L.cells (.slice A ps.length cA) (.slice A' is.length cA'))).cells 58)) w.heap.size 58 (L.cells (.slice A ps.length cA) (.slice A' is.length cA')) := Blk.new w 58 _
  have ha := (Below.refl w.heap.size w).alloc (Nat.le_refl _) (.cells (Value.agg (L.cells (.slice A ps.length cA) (.slice A' is.length cA'))).cells 58)
  generalize w.alloc (.cells (Value.agg (L.cells (.slice A ps.length cA) (.slice A' is.length cA'))).cells 58) = w1 at *
  refine bx ?_
  have hM : Blk (w1.alloc (.cells (Value.agg (L.cells (.slice B ps.length cB) (.slice B' is.length cB'))).cells 58)) w1.heap.size 58 (L.cells (.slice B ps.length cB) (.slice B' is.length cB')) := Blk.new w1 58 _
  have ha2 := (Below.refl w1.heap.size w1).alloc (Nat.le_refl _) (.cells (Value.agg (L.cells (.slice B ps.length cB) (.slice B' is.length cB'))).cells 58)
  have hL2 := hL.below' ha2
  generalize hg2 : w1.heap.size = g2 at *
  generalize w1.alloc (.cells (Value.agg (L.cells (.slice B ps.length cB) (.slice B' is.length cB'))).cells 58) = w2 at *
  have hb2 : Below w.heap.size w w2 := ha.trans (ha2.mono (by have := ha.size; omega))
  have c9 : w2.cell? ⟨w.heap.size, 9, none⟩ = some (.slice A ps.length cA) := hL2.cell 9
  have c10 : w2.cell? ⟨w.heap.size, 10, none⟩ = some (.slice A' is.length cA') := hL2.cell 10
  have d9 : w2.cell? ⟨g2, 9, none⟩ = some (.slice B ps.length cB) := hM.cell 9
  have d10 : w2.cell? ⟨g2, 10, none⟩ = some (.slice B' is.length cB') := hM.cell 10
  (repeat with_reducible first | refine fd l9 (by decide) ?_| refine ld one55 c9 ?_| refine ld one55 d9 ?_|refine z_a ?_|refine z_b ?_|refine z_c ?_|refine z_d ?_|refine z_e ?_|refine z_f ?_|refine z_g ?_|refine z_h ?_|refine z_i ?_|refine z_j ?_|refine z_k ?_|refine z_l ?_|refine z_m (by omega) ?_|refine z_n (by omega) ?_|refine z_o (by omega) ?_|refine z_p (by omega) ?_|refine z_q (by omega) ?_|refine z_r (by omega) ?_|refine z_s (by omega) ?_|refine z_t (by omega) ?_|refine z_u (by omega) ?_|refine z_v (by omega) ?_|refine z_w (by omega) ?_|refine z_x (by omega) ?_|refine z_y (by omega) ?_|refine z_z (by omega) ?_|refine z_A ?_|refine z_B ?_|refine z_C ?_|refine z_D ?_|refine z_E ?_|refine z_F ?_|refine z_G ?_|refine z_H ?_|refine z_I ?_|refine z_J ?_|refine z_K (by omega) (by decide) ?_|refine z_L (by omega) (by decide) ?_|refine z_M (by omega) ?_|refine z_N (by omega) ?_|refine z_O (by omega) ?_|refine z_P ?_|refine z_Q ?_|refine z_R ?_|refine z_S ?_|refine z_T ?_|refine z_U (by decide) ?_|refine z_V (by decide) ?_)
  refine ln und55 ?_
  (repeat with_reducible first | refine fd l9 (by decide) ?_| refine ld one55 d9 ?_|refine z_a ?_|refine z_b ?_|refine z_c ?_|refine z_d ?_|refine z_e ?_|refine z_f ?_|refine z_g ?_|refine z_h ?_|refine z_i ?_|refine z_j ?_|refine z_k ?_|refine z_l ?_|refine z_m (by omega) ?_|refine z_n (by omega) ?_|refine z_o (by omega) ?_|refine z_p (by omega) ?_|refine z_q (by omega) ?_|refine z_r (by omega) ?_|refine z_s (by omega) ?_|refine z_t (by omega) ?_|refine z_u (by omega) ?_|refine z_v (by omega) ?_|refine z_w (by omega) ?_|refine z_x (by omega) ?_|refine z_y (by omega) ?_|refine z_z (by omega) ?_|refine z_A ?_|refine z_B ?_|refine z_C ?_|refine z_D ?_|refine z_E ?_|refine z_F ?_|refine z_G ?_|refine z_H ?_|refine z_I ?_|refine z_J ?_|refine z_K (by omega) (by decide) ?_|refine z_L (by omega) (by decide) ?_|refine z_M (by omega) ?_|refine z_N (by omega) ?_|refine z_O (by omega) ?_|refine z_P ?_|refine z_Q ?_|refine z_R ?_|refine z_S ?_|refine z_T ?_|refine z_U (by decide) ?_|refine z_V (by decide) ?_)
  refine ln und55 ?_
  (repeat with_reducible first | refine fd l10 (by decide) ?_| refine ld one56 c10 ?_| refine ld one56 d10 ?_|refine z_a ?_|refine z_b ?_|refine z_c ?_|refine z_d ?_|refine z_e ?_|refine z_f ?_|refine z_g ?_|refine z_h ?_|refine z_i ?_|refine z_j ?_|refine z_k ?_|refine z_l ?_|refine z_m (by omega) ?_|refine z_n (by omega) ?_|refine z_o (by omega) ?_|refine z_p (by omega) ?_|refine z_q (by omega) ?_|refine z_r (by omega) ?_|refine z_s (by omega) ?_|refine z_t (by omega) ?_|refine z_u (by omega) ?_|refine z_v (by omega) ?_|refine z_w (by omega) ?_|refine z_x (by omega) ?_|refine z_y (by omega) ?_|refine z_z (by omega) ?_|refine z_A ?_|refine z_B ?_|refine z_C ?_|refine z_D ?_|refine z_E ?_|refine z_F ?_|refine z_G ?_|refine z_H ?_|refine z_I ?_|refine z_J ?_|refine z_K (by omega) (by decide) ?_|refine z_L (by omega) (by decide) ?_|refine z_M (by omega) ?_|refine z_N (by omega) ?_|refine z_O (by omega) ?_|refine z_P ?_|refine z_Q ?_|refine z_R ?_|refine z_S ?_|refine z_T ?_|refine z_U (by decide) ?_|refine z_V (by decide) ?_)
  refine (SameIntents_spec _ _ is w2 (keeps_Intents _ _ _ _ hb2 hq) (keeps_Intents _ _ _ _ hb2 hq')).mono ?_
  rintro _ w3 ⟨rfl, hb3⟩
  have hb3' := below_then hb2 hb3
  have hL3 := hL2.below' hb3
  have hM3 := hM.below' hb3
  (repeat with_reducible first|refine z_a ?_|refine z_b ?_|refine z_c ?_|refine z_d ?_|refine z_e ?_|refine z_f ?_|refine z_g ?_|refine z_h ?_|refine z_i ?_|refine z_j ?_|refine z_k ?_|refine z_l ?_|refine z_m (by omega) ?_|refine z_n (by omega) ?_|refine z_o (by omega) ?_|refine z_p (by omega) ?_|refine z_q (by omega) ?_|refine z_r (by omega) ?_|refine z_s (by omega) ?_|refine z_t (by omega) ?_|refine z_u (by omega) ?_|refine z_v (by omega) ?_|refine z_w (by omega) ?_|refine z_x (by omega) ?_|refine z_y (by omega) ?_|refine z_z (by omega) ?_|refine z_A ?_|refine z_B ?_|refine z_C ?_|refine z_D ?_|refine z_E ?_|refine z_F ?_|refine z_G ?_|refine z_H ?_|refine z_I ?_|refine z_J ?_|refine z_K (by omega) (by decide) ?_|refine z_L (by omega) (by decide) ?_|refine z_M (by omega) ?_|refine z_N (by omega) ?_|refine z_O (by omega) ?_|refine z_P ?_|refine z_Q ?_|refine z_R ?_|refine z_S ?_|refine z_T ?_|refine z_U (by decide) ?_|refine z_V (by decide) ?_)
  refine LoopP.inv1 (fun i w' => ∃ k : Nat, k ≤ ps.length ∧ i = .int .i64 k ∧ Below w3.heap.size w3 w') (fun i _ => ps.length - (intOf i).toNat) ⟨0, by omega, rfl, Below.refl _ _⟩ ?_
  rintro _ w4 ⟨k, hk, rfl, hb4⟩ J hJ
  dsimp only [List.headD_cons, List.tail_cons]
  have hL4 := hL3.below' hb4
  have hM4 := hM3.below' hb4
  have hb4' := below_then hb3' hb4
  have e9 : w4.cell? ⟨w.heap.size, 9, none⟩ = some (.slice A ps.length cA) := hL4.cell 9
  (repeat with_reducible first | refine fd l9 (by decide) ?_| refine ld one55 e9 ?_|refine z_a ?_|refine z_b ?_|refine z_c ?_|refine z_d ?_|refine z_e ?_|refine z_f ?_|refine z_g ?_|refine z_h ?_|refine z_i ?_|refine z_j ?_|refine z_k ?_|refine z_l ?_|refine z_m (by omega) ?_|refine z_n (by omega) ?_|refine z_o (by omega) ?_|refine z_p (by omega) ?_|refine z_q (by omega) ?_|refine z_r (by omega) ?_|refine z_s (by omega) ?_|refine z_t (by omega) ?_|refine z_u (by omega) ?_|refine z_v (by omega) ?_|refine z_w (by omega) ?_|refine z_x (by omega) ?_|refine z_y (by omega) ?_|refine z_z (by omega) ?_|refine z_A ?_|refine z_B ?_|refine z_C ?_|refine z_D ?_|refine z_E ?_|refine z_F ?_|refine z_G ?_|refine z_H ?_|refine z_I ?_|refine z_J ?_|refine z_K (by omega) (by decide) ?_|refine z_L (by omega) (by decide) ?_|refine z_M (by omega) ?_|refine z_N (by omega) ?_|refine z_O (by omega) ?_|refine z_P ?_|refine z_Q ?_|refine z_R ?_|refine z_S ?_|refine z_T ?_|refine z_U (by decide) ?_|refine z_V (by decide) ?_)
  refine ln und55 ?_
  have hdr : Below w4.heap.size w4 w4.drew := (Below.refl _ _).drew
  refine bi_lss_c (fun h => ?_) (fun h => ?_)
  · have hk' : k < ps.length := by omega
    obtain ⟨a, us, rfl, hus, hcell, hrd⟩ := rRow.at (keeps_Pairs _ _ _ _ hb4' hp) k hk'
    obtain ⟨rfl, _⟩ := pair_cells hrd
    obtain ⟨a', us', rfl, hus', hcell', hrd'⟩ := rRow.at (keeps_Pairs _ _ _ _ hb4' hp') k hk'
    obtain ⟨rfl, _⟩ := pair_cells hrd'
    have f9 : ∀ w', Below w4.heap.size w4 w' → w'.cell? ⟨w.heap.size, 9, none⟩ = some (.slice (some a) ps.length cA) := fun w' h => (hL4.below' h).cell 9
    have f9' : ∀ w', Below w4.heap.size w4 w' → w'.cell? ⟨g2, 9, none⟩ = some (.slice (some a') ps.length cB) := fun w' h => (hM4.below' h).cell 9
    (repeat with_reducible first|refine z_a ?_|refine z_b ?_|refine z_c ?_|refine z_d ?_|refine z_e ?_|refine z_f ?_|refine z_g ?_|refine z_h ?_|refine z_i ?_|refine z_j ?_|refine z_k ?_|refine z_l ?_|refine z_m (by omega) ?_|refine z_n (by omega) ?_|refine z_o (by omega) ?_|refine z_p (by omega) ?_|refine z_q (by omega) ?_|refine z_r (by omega) ?_|refine z_s (by omega) ?_|refine z_t (by omega) ?_|refine z_u (by omega) ?_|refine z_v (by omega) ?_|refine z_w (by omega) ?_|refine z_x (by omega) ?_|refine z_y (by omega) ?_|refine z_z (by omega) ?_|refine z_A ?_|refine z_B ?_|refine z_C ?_|refine z_D ?_|refine z_E ?_|refine z_F ?_|refine z_G ?_|refine z_H ?_|refine z_I ?_|refine z_J ?_|refine z_K (by omega) (by decide) ?_|refine z_L (by omega) (by decide) ?_|refine z_M (by omega) ?_|refine z_N (by omega) ?_|refine z_O (by omega) ?_|refine z_P ?_|refine z_Q ?_|refine z_R ?_|refine z_S ?_|refine z_T ?_|refine z_U (by decide) ?_|refine z_V (by decide) ?_)
    refine draw (Below w4.heap.size w4) hdr ?_
    (repeat with_reducible first | refine yfd l9 (by decide) ?_| refine yl1 one55 f9 ?_|refine z_W ?_|refine z_a ?_|refine z_b ?_|refine z_c ?_|refine z_d ?_|refine z_e ?_|refine z_f ?_|refine z_g ?_|refine z_h ?_|refine z_i ?_|refine z_j ?_|refine z_k ?_|refine z_l ?_|refine z_X (by omega) ?_|refine z_Y (by omega) ?_|refine z_Z (by omega) ?_|refine z_a1 (by omega) ?_|refine z_b1 (by omega) ?_|refine z_c1 (by omega) ?_|refine z_d1 (by omega) ?_|refine z_e1 (by omega) ?_|refine z_f1 (by omega) ?_|refine z_g1 (by omega) ?_|refine z_h1 (by omega) ?_|refine z_i1 (by omega) ?_|refine z_j1 (by omega) ?_|refine z_k1 (by omega) ?_|refine z_l1 ?_|refine z_m1 ?_|refine z_n1 ?_|refine z_o1 ?_|refine z_p1 ?_|refine z_q1 ?_|refine z_r1 ?_|refine z_s1 ?_|refine z_t1 ?_|refine z_u1 ?_|refine z_v1 (by omega) (by decide) ?_|refine z_w1 (by omega) (by decide) ?_|refine z_x1 (by omega) ?_|refine z_y1 (by omega) ?_|refine z_z1 (by omega) ?_|refine z_A1 ?_|refine z_B1 ?_|refine z_C1 ?_|refine z_D1 ?_|refine z_E1 ?_|refine z_F1 (by decide) ?_|refine z_G1 (by decide) ?_)
    refine yixA und55 sz64 k hk' ?_
    refine yldR agg64 (keepC hcell) (by rw [sz64]; rfl) ?_
    (repeat with_reducible first | refine yfd l9 (by decide) ?_| refine yl1 one55 f9' ?_|refine z_W ?_|refine z_a ?_|refine z_b ?_|refine z_c ?_|refine z_d ?_|refine z_e ?_|refine z_f ?_|refine z_g ?_|refine z_h ?_|refine z_i ?_|refine z_j ?_|refine z_k ?_|refine z_l ?_|refine z_X (by omega) ?_|refine z_Y (by omega) ?_|refine z_Z (by omega) ?_|refine z_a1 (by omega) ?_|refine z_b1 (by omega) ?_|refine z_c1 (by omega) ?_|refine z_d1 (by omega) ?_|refine z_e1 (by omega) ?_|refine z_f1 (by omega) ?_|refine z_g1 (by omega) ?_|refine z_h1 (by omega) ?_|refine z_i1 (by omega) ?_|refine z_j1 (by omega) ?_|refine z_k1 (by omega) ?_|refine z_l1 ?_|refine z_m1 ?_|refine z_n1 ?_|refine z_o1 ?_|refine z_p1 ?_|refine z_q1 ?_|refine z_r1 ?_|refine z_s1 ?_|refine z_t1 ?_|refine z_u1 ?_|refine z_v1 (by omega) (by decide) ?_|refine z_w1 (by omega) (by decide) ?_|refine z_x1 (by omega) ?_|refine z_y1 (by omega) ?_|refine z_z1 (by omega) ?_|refine z_A1 ?_|refine z_B1 ?_|refine z_C1 ?_|refine z_D1 ?_|refine z_E1 ?_|refine z_F1 (by decide) ?_|refine z_G1 (by decide) ?_)
    refine yixA und55 sz64 k hk' ?_
    refine yldR agg64 (keepC hcell') (by rw [sz64]; rfl) ?_
    refine yofPR (neq64 ps[k].1 ps[k].2.1) ?_
    (repeat with_reducible first|refine z_a ?_|refine z_b ?_|refine z_c ?_|refine z_d ?_|refine z_e ?_|refine z_f ?_|refine z_g ?_|refine z_h ?_|refine z_i ?_|refine z_j ?_|refine z_k ?_|refine z_l ?_|refine z_m (by omega) ?_|refine z_n (by omega) ?_|refine z_o (by omega) ?_|refine z_p (by omega) ?_|refine z_q (by omega) ?_|refine z_r (by omega) ?_|refine z_s (by omega) ?_|refine z_t (by omega) ?_|refine z_u (by omega) ?_|refine z_v (by omega) ?_|refine z_w (by omega) ?_|refine z_x (by omega) ?_|refine z_y (by omega) ?_|refine z_z (by omega) ?_|refine z_A ?_|refine z_B ?_|refine z_C ?_|refine z_D ?_|refine z_E ?_|refine z_F ?_|refine z_G ?_|refine z_H ?_|refine z_I ?_|refine z_J ?_|refine z_K (by omega) (by decide) ?_|refine z_L (by omega) (by decide) ?_|refine z_M (by omega) ?_|refine z_N (by omega) ?_|refine z_O (by omega) ?_|refine z_P ?_|refine z_Q ?_|refine z_R ?_|refine z_S ?_|refine z_T ?_|refine z_U (by decide) ?_|refine z_V (by decide) ?_)
    exact hJ _ _ ⟨k + 1, by omega, by simp, below_then hb4 hdr⟩ (by simp [intOf]; omega)
  have hb4d := below_then hb4' hdr
  (repeat with_reducible first|refine z_a ?_|refine z_b ?_|refine z_c ?_|refine z_d ?_|refine z_e ?_|refine z_f ?_|refine z_g ?_|refine z_h ?_|refine z_i ?_|refine z_j ?_|refine z_k ?_|refine z_l ?_|refine z_m (by omega) ?_|refine z_n (by omega) ?_|refine z_o (by omega) ?_|refine z_p (by omega) ?_|refine z_q (by omega) ?_|refine z_r (by omega) ?_|refine z_s (by omega) ?_|refine z_t (by omega) ?_|refine z_u (by omega) ?_|refine z_v (by omega) ?_|refine z_w (by omega) ?_|refine z_x (by omega) ?_|refine z_y (by omega) ?_|refine z_z (by omega) ?_|refine z_A ?_|refine z_B ?_|refine z_C ?_|refine z_D ?_|refine z_E ?_|refine z_F ?_|refine z_G ?_|refine z_H ?_|refine z_I ?_|refine z_J ?_|refine z_K (by omega) (by decide) ?_|refine z_L (by omega) (by decide) ?_|refine z_M (by omega) ?_|refine z_N (by omega) ?_|refine z_O (by omega) ?_|refine z_P ?_|refine z_Q ?_|refine z_R ?_|refine z_S ?_|refine z_T ?_|refine z_U (by decide) ?_|refine z_V (by decide) ?_)
  refine draw (fun w' => Blk w' w.heap.size 58 (L.cells (.slice A ps.length cA) (.slice A' is.length cA')) ∧ Blk w' g2 58 (L.cells (.slice B ps.length cB) (.slice B' is.length cB'))) ⟨hL4.below' hdr, hM4.below' hdr⟩ ?_
  have hnA : ∀ w', (Blk w' w.heap.size 58 (L.cells (.slice A ps.length cA) (.slice A' is.length cA')) ∧ Blk w' g2 58 (L.cells (.slice B ps.length cB) (.slice B' is.length cB'))) → Blk w' w.heap.size 58 (L.cells (.slice A ps.length cA) (.slice A' is.length cA')) := fun _ h => h.1
  have hnB : ∀ w', (Blk w' w.heap.size 58 (L.cells (.slice A ps.length cA) (.slice A' is.length cA')) ∧ Blk w' g2 58 (L.cells (.slice B ps.length cB) (.slice B' is.length cB'))) → Blk w' g2 58 (L.cells (.slice B ps.length cB) (.slice B' is.length cB')) := fun _ h => h.2
  refine yld (v := .agg (L.cells (.slice A ps.length cA) (.slice A' is.length cA'))) (fun w' h => by simpa [Instr.loadAt, Instr.sureAddr] using run_ldA agg58 h.1 (by exact sz58)) ?_
  refine yld (v := .agg (L.cells (.slice B ps.length cB) (.slice B' is.length cB'))) (fun w' h => by simpa [Instr.loadAt, Instr.sureAddr] using run_ldA agg58 h.2 (by exact sz58)) ?_
  refine act ?_
  refine (numbers63_spec L _ _ _).mono ?_
  rintro _ w5 ⟨⟨A5, c5, rfl⟩, hr5, hb5⟩
  have hb5' := below_then hdr hb5
  refine ⟨_, ⟨hL4.below' hb5', hM4.below' hb5'⟩, fun _ h => h, ?_⟩
  refine act ?_
  refine (numbers63_spec L _ _ _).mono ?_
  rintro _ w6 ⟨⟨A6, c6, rfl⟩, hr6, hb6⟩
  have hb6' := below_then hb5' hb6
  refine ⟨_, ⟨hL4.below' hb6', hM4.below' hb6'⟩, fun _ h => h, ?_⟩
  have hr5' := hr5.below hb6
  have hb6f := below_then hb4' hb6'
  have hl7 : (([L.frm, L.to, L.a, L.b, L.c, L.d, L.code] : List Int).map (Value.int .i64)).length = 7 := rfl
  refine LoopP.inv1 (fun i w' => ∃ k : Nat, k ≤ 7 ∧ i = .int .i64 k ∧ Below w6.heap.size w6 w') (fun i _ => 7 - (intOf i).toNat) ⟨0, by omega, rfl, Below.refl _ _⟩ ?_
  rintro _ w7 ⟨k, hk, rfl, hb7⟩ J hJ
  dsimp only [List.headD_cons, List.tail_cons]
  refine ln und81 ?_
  refine bi_lss_c (fun h => ?_) (fun h => ?_)
  · have hk' : k < 7 := by omega
    have hki : k < ([L.frm, L.to, L.a, L.b, L.c, L.d, L.code] : List Int).length := hk'
    obtain ⟨a, rfl, hca⟩ := Rd.atI (hr5'.below hb7) k hki
    obtain ⟨a', rfl, hca'⟩ := Rd.atI (hr6.below hb7) k hki
    have hdr7 : Below w7.heap.size w7 w7.drew := (Below.refl _ _).drew
    have g1 : ∀ w', Below w7.heap.size w7 w' → w'.cell? (a.add k) = some (.int .i64 ([L.frm, L.to, L.a, L.b, L.c, L.d, L.code][k])) := fun w' hb => by rw [hb.cell (World.block_lt_of_cell? _ _ hca), hca]
    have g2' : ∀ w', Below w7.heap.size w7 w' → w'.cell? (a'.add k) = some (.int .i64 ([L.frm, L.to, L.a, L.b, L.c, L.d, L.code][k])) := fun w' hb => by rw [hb.cell (World.block_lt_of_cell? _ _ hca'), hca']
    (repeat with_reducible first|refine z_a ?_|refine z_b ?_|refine z_c ?_|refine z_d ?_|refine z_e ?_|refine z_f ?_|refine z_g ?_|refine z_h ?_|refine z_i ?_|refine z_j ?_|refine z_k ?_|refine z_l ?_|refine z_m (by omega) ?_|refine z_n (by omega) ?_|refine z_o (by omega) ?_|refine z_p (by omega) ?_|refine z_q (by omega) ?_|refine z_r (by omega) ?_|refine z_s (by omega) ?_|refine z_t (by omega) ?_|refine z_u (by omega) ?_|refine z_v (by omega) ?_|refine z_w (by omega) ?_|refine z_x (by omega) ?_|refine z_y (by omega) ?_|refine z_z (by omega) ?_|refine z_A ?_|refine z_B ?_|refine z_C ?_|refine z_D ?_|refine z_E ?_|refine z_F ?_|refine z_G ?_|refine z_H ?_|refine z_I ?_|refine z_J ?_|refine z_K (by omega) (by decide) ?_|refine z_L (by omega) (by decide) ?_|refine z_M (by omega) ?_|refine z_N (by omega) ?_|refine z_O (by omega) ?_|refine z_P ?_|refine z_Q ?_|refine z_R ?_|refine z_S ?_|refine z_T ?_|refine z_U (by decide) ?_|refine z_V (by decide) ?_)
    refine draw (Below w7.heap.size w7) hdr7 ?_
    (repeat with_reducible first | refine yix1 und81 sz3 k hk' ?_| refine yl1 one3 g1 ?_| refine yl1 one3 g2' ?_|refine z_e1 rfl ?_|refine z_W ?_|refine z_a ?_|refine z_b ?_|refine z_c ?_|refine z_d ?_|refine z_e ?_|refine z_f ?_|refine z_g ?_|refine z_h ?_|refine z_i ?_|refine z_j ?_|refine z_k ?_|refine z_l ?_|refine z_X (by omega) ?_|refine z_Y (by omega) ?_|refine z_Z (by omega) ?_|refine z_a1 (by omega) ?_|refine z_b1 (by omega) ?_|refine z_c1 (by omega) ?_|refine z_d1 (by omega) ?_|refine z_e1 (by omega) ?_|refine z_f1 (by omega) ?_|refine z_g1 (by omega) ?_|refine z_h1 (by omega) ?_|refine z_i1 (by omega) ?_|refine z_j1 (by omega) ?_|refine z_k1 (by omega) ?_|refine z_l1 ?_|refine z_m1 ?_|refine z_n1 ?_|refine z_o1 ?_|refine z_p1 ?_|refine z_q1 ?_|refine z_r1 ?_|refine z_s1 ?_|refine z_t1 ?_|refine z_u1 ?_|refine z_v1 (by omega) (by decide) ?_|refine z_w1 (by omega) (by decide) ?_|refine z_x1 (by omega) ?_|refine z_y1 (by omega) ?_|refine z_z1 (by omega) ?_|refine z_A1 ?_|refine z_B1 ?_|refine z_C1 ?_|refine z_D1 ?_|refine z_E1 ?_|refine z_F1 (by decide) ?_|refine z_G1 (by decide) ?_)
    (repeat with_reducible first|refine z_a ?_|refine z_b ?_|refine z_c ?_|refine z_d ?_|refine z_e ?_|refine z_f ?_|refine z_g ?_|refine z_h ?_|refine z_i ?_|refine z_j ?_|refine z_k ?_|refine z_l ?_|refine z_m (by omega) ?_|refine z_n (by omega) ?_|refine z_o (by omega) ?_|refine z_p (by omega) ?_|refine z_q (by omega) ?_|refine z_r (by omega) ?_|refine z_s (by omega) ?_|refine z_t (by omega) ?_|refine z_u (by omega) ?_|refine z_v (by omega) ?_|refine z_w (by omega) ?_|refine z_x (by omega) ?_|refine z_y (by omega) ?_|refine z_z (by omega) ?_|refine z_A ?_|refine z_B ?_|refine z_C ?_|refine z_D ?_|refine z_E ?_|refine z_F ?_|refine z_G ?_|refine z_H ?_|refine z_I ?_|refine z_J ?_|refine z_K (by omega) (by decide) ?_|refine z_L (by omega) (by decide) ?_|refine z_M (by omega) ?_|refine z_N (by omega) ?_|refine z_O (by omega) ?_|refine z_P ?_|refine z_Q ?_|refine z_R ?_|refine z_S ?_|refine z_T ?_|refine z_U (by decide) ?_|refine z_V (by decide) ?_)
    exact hJ _ _ ⟨k + 1, by omega, by simp, below_then hb7 hdr7⟩ (by simp [intOf]; omega)
  have hL7 := (hL4.below' hb6').below' hb7
  have hM7 := (hM4.below' hb6').below' hb7
  have k0 : w7.cell? ⟨w.heap.size, 0, none⟩ = some (.int .i64 L.kind) := hL7.cell 0
  have m0 : w7.cell? ⟨g2, 0, none⟩ = some (.int .i64 L.kind) := hM7.cell 0
  have k12 : w7.cell? ⟨w.heap.size, 12, none⟩ = some (.bool L.yes) := hL7.cell 12
  have m12 : w7.cell? ⟨g2, 12, none⟩ = some (.bool L.yes) := hM7.cell 12
  have k7 : w7.cell? ⟨w.heap.size, 7, none⟩ = some (.string L.s) := hL7.cell 7
  have m7 : w7.cell? ⟨g2, 7, none⟩ = some (.string L.s) := hM7.cell 7
  have k8 : w7.cell? ⟨w.heap.size, 8, none⟩ = some (.string L.t) := hL7.cell 8
  have m8 : w7.cell? ⟨g2, 8, none⟩ = some (.string L.t) := hM7.cell 8
  have k13 : w7.cell? ⟨w.heap.size, 13, none⟩ = some (.string L.body) := hL7.cell 13
  have m13 : w7.cell? ⟨g2, 13, none⟩ = some (.string L.body) := hM7.cell 13
  (repeat with_reducible first | refine fd l0 (by decide) ?_| refine ld one3 k0 ?_| refine ld one3 m0 ?_|refine z_q rfl ?_| refine fd l12 (by decide) ?_| refine ld one4 k12 ?_| refine ld one4 m12 ?_|refine z_a ?_|refine z_b ?_|refine z_c ?_|refine z_d ?_|refine z_e ?_|refine z_f ?_|refine z_g ?_|refine z_h ?_|refine z_i ?_|refine z_j ?_|refine z_k ?_|refine z_l ?_|refine z_m (by omega) ?_|refine z_n (by omega) ?_|refine z_o (by omega) ?_|refine z_p (by omega) ?_|refine z_q (by omega) ?_|refine z_r (by omega) ?_|refine z_s (by omega) ?_|refine z_t (by omega) ?_|refine z_u (by omega) ?_|refine z_v (by omega) ?_|refine z_w (by omega) ?_|refine z_x (by omega) ?_|refine z_y (by omega) ?_|refine z_z (by omega) ?_|refine z_A ?_|refine z_B ?_|refine z_C ?_|refine z_D ?_|refine z_E ?_|refine z_F ?_|refine z_G ?_|refine z_H ?_|refine z_I ?_|refine z_J ?_|refine z_K (by omega) (by decide) ?_|refine z_L (by omega) (by decide) ?_|refine z_M (by omega) ?_|refine z_N (by omega) ?_|refine z_O (by omega) ?_|refine z_P ?_|refine z_Q ?_|refine z_R ?_|refine z_S ?_|refine z_T ?_|refine z_U (by decide) ?_|refine z_V (by decide) ?_)
  refine bi_beql und4 ?_
  rw [show decide (L.yes = L.yes) = true from by simp]
  (repeat with_reducible first | refine fd l7 (by decide) ?_| refine ld one9 k7 ?_| refine ld one9 m7 ?_|refine z_H1 rfl ?_| refine fd l8 (by decide) ?_| refine ld one9 k8 ?_| refine ld one9 m8 ?_| refine fd l13 (by decide) ?_| refine ld one9 k13 ?_| refine ld one9 m13 ?_|refine z_a ?_|refine z_b ?_|refine z_c ?_|refine z_d ?_|refine z_e ?_|refine z_f ?_|refine z_g ?_|refine z_h ?_|refine z_i ?_|refine z_j ?_|refine z_k ?_|refine z_l ?_|refine z_m (by omega) ?_|refine z_n (by omega) ?_|refine z_o (by omega) ?_|refine z_p (by omega) ?_|refine z_q (by omega) ?_|refine z_r (by omega) ?_|refine z_s (by omega) ?_|refine z_t (by omega) ?_|refine z_u (by omega) ?_|refine z_v (by omega) ?_|refine z_w (by omega) ?_|refine z_x (by omega) ?_|refine z_y (by omega) ?_|refine z_z (by omega) ?_|refine z_A ?_|refine z_B ?_|refine z_C ?_|refine z_D ?_|refine z_E ?_|refine z_F ?_|refine z_G ?_|refine z_H ?_|refine z_I ?_|refine z_J ?_|refine z_K (by omega) (by decide) ?_|refine z_L (by omega) (by decide) ?_|refine z_M (by omega) ?_|refine z_N (by omega) ?_|refine z_O (by omega) ?_|refine z_P ?_|refine z_Q ?_|refine z_R ?_|refine z_S ?_|refine z_T ?_|refine z_U (by decide) ?_|refine z_V (by decide) ?_)
  exact ⟨rfl, below_then hb6f hb7⟩
end Go.Proofs.Ythicbfopjakiiaa.E
namespace Go.Proofs.Ythicbfopjakiiaa.E
open Go Go.RowKit
set_option linter.unusedSimpArgs false
set_option linter.unusedVariables false

theorem und116 : Try.prog.underlying 116 = some (.map 3 58) := by kernel_rfl
theorem one116 : oneB Try.prog 116 = true := by kernel_rfl
theorem n0 : fofs Try.prog 118 0 = some (0, 1) := by kernel_rfl
theorem n1 : fofs Try.prog 118 1 = some (1, 1) := by kernel_rfl
/-- A letter with its rows. -/
structure Msg where
  L : Let
  p : Value
  q : Value
  ps : List PairT
  is : List IntentT
def Msg.val (m : Msg) : Value := .agg (m.L.cells m.p m.q)
def pairOk (p : PairT) : Prop := p.1.size ≤ maxLen ∧ p.2.1.size ≤ maxLen
def intentOk (p : IntentT) : Prop := p.1.size ≤ maxLen ∧ (Lit.int .i64 p.2.1).wf = true
structure MsgAt (c : Nat → Nat) (x : Nat) (w : World) (m : Msg) : Prop where
  op : OwnS 2 64 w m.p m.ps.length (m.ps.flatMap pairF)
  oq : OwnS 3 68 w m.q m.is.length (m.is.flatMap intentF)
  cp : InC c x m.p
  cq : InC c x m.q
  kp : ∀ p ∈ m.ps, pairOk p
  kq : ∀ i ∈ m.is, intentOk i
  lp : m.ps.length ≤ 256
  lq : m.is.length ≤ 256
  ap : m.p.ownBlock = none ∨ m.p.ownBlock ≠ m.q.ownBlock
theorem rPair_all : ∀ (w w' : World) (us : List Value) (x : PairT), rPair w us x → rPair w' us x := fun _ _ _ _ h => h
theorem rIntent_all : ∀ (w w' : World) (us : List Value) (x : IntentT), rIntent w us x → rIntent w' us x := fun _ _ _ _ h => h
theorem rPair_of {w : World} {x : PairT} (h : pairOk x) : rPair w (pairF x) x := ⟨⟨rfl, h.1⟩, ⟨rfl, h.2⟩, rfl⟩
theorem rIntent_of {w : World} {x : IntentT} (h : intentOk x) : rIntent w (intentF x) x := ⟨⟨rfl, h.1⟩, ⟨rfl, h.2⟩, rfl, rfl⟩
theorem pairs_ok {w : World} {v : Value} {l : List PairT} (h : Pairs w [v] l) : ∀ p ∈ l, pairOk p := by
  intro p hp
  obtain ⟨A, c, he, _, _, h⟩ := h
  obtain ⟨i, hi, rfl⟩ := List.getElem_of_mem hp
  obtain ⟨a, us, _, _, _, hr⟩ := h i l[i] (List.getElem?_eq_getElem hi)
  exact (pair_cells hr).2
theorem intents_ok {w : World} {v : Value} {l : List IntentT} (h : Intents w [v] l) : ∀ p ∈ l, intentOk p := by
  intro p hp
  obtain ⟨A, c, he, _, _, h⟩ := h
  obtain ⟨i, hi, rfl⟩ := List.getElem_of_mem hp
  obtain ⟨a, us, _, _, _, hr⟩ := h i l[i] (List.getElem?_eq_getElem hi)
  refine ⟨(intent_cells hr).2, ?_⟩
  obtain ⟨r, e1, _, h2⟩ := rCons_S hr
  obtain ⟨r', e2, h3, _⟩ := rCons_I h2
  exact h3
section
variable {c c' : Nat → Nat} {x : Nat} {w w' : World} {m : Msg}
theorem MsgAt.pairs (h : MsgAt c x w m) : Pairs w [m.p] m.ps := h.op.rd (fun _ => rfl) fun p hp => rPair_of (h.kp p hp)
theorem MsgAt.intents (h : MsgAt c x w m) : Intents w [m.q] m.is := h.oq.rd (fun _ => rfl) fun p hp => rIntent_of (h.kq p hp)
theorem MsgAt.turns {F : Nat → Prop} (h : MsgAt c x w m) (hT : Turns F w w') (hF : ∀ k, F k → c k ≠ x) : MsgAt c x w' m :=
  ⟨h.op.turns hT (fun k hk he => hF k he (h.cp k hk)), h.oq.turns hT (fun k hk he => hF k he (h.cq k hk)), h.cp, h.cq, h.kp, h.kq, h.lp, h.lq, h.ap⟩
theorem MsgAt.re (h : MsgAt c x w m) (hc : ∀ k, k < w.heap.size → c' k = c k) : MsgAt c' x w m := ⟨h.op, h.oq, h.cp.re (fun b hb => h.op.lt hb) hc, h.cq.re (fun b hb => h.oq.lt hb) hc, h.kp, h.kq, h.lp, h.lq, h.ap⟩
end
/-- A net in memory: its struct and map have colour 1; a letter's rows the colour of its number and 10. -/
structure NetAt (c : Nat → Nat) (w : World) (g b last : Nat) (l : List (Int × Msg)) : Prop where
  hue : c g = 1
  huem : c b = 1
  ne : g ≠ b
  blk : Blk w g 118 #[.map (some b), .int .i64 last]
  map : MapI w b (l.map fun x => (x.1, x.2.val))
  el : ∀ x ∈ l, (1 ≤ x.1 ∧ x.1 ≤ last) ∧ MsgAt c (x.1.toNat + 10) w x.2
def NetC (c : Nat → Nat) (w : World) (g last : Nat) (l : List (Int × Msg)) : Prop := ∃ b, NetAt c w g b last l
section
variable {c c' : Nat → Nat} {w w' : World} {g b last : Nat} {l : List (Int × Msg)}
theorem NetAt.turns {F : Nat → Prop} (h : NetAt c w g b last l) (hT : Turns F w w') (hF : ∀ k, F k → c k = 0) : NetAt c w' g b last l :=
  ⟨h.hue, h.huem, h.ne, h.blk.turns hT (fun e => by have := hF g e; rw [h.hue] at this; omega), h.map.turns hT (fun e => by have := hF b e; rw [h.huem] at this; omega),
    fun x hx => ⟨(h.el x hx).1, (h.el x hx).2.turns hT (fun k hk => by rw [hF k hk]; omega)⟩⟩
theorem NetAt.below (h : NetAt c w g b last l) (hb : Below w.heap.size w w') : NetAt c w' g b last l := h.turns (F := fun _ => False) (Turns.of_below hb) (fun _ h => h.elim)
theorem NetAt.re (h : NetAt c w g b last l) (hc : ∀ k, k < w.heap.size → c' k = c k) : NetAt c' w g b last l :=
  ⟨(hc g h.blk.lt).trans h.hue, (hc b h.map.lt).trans h.huem, h.ne, h.blk, h.map, fun x hx => ⟨(h.el x hx).1, (h.el x hx).2.re hc⟩⟩
theorem NetC.turns {F : Nat → Prop} (h : NetC c w g last l) (hT : Turns F w w') (hF : ∀ k, F k → c k = 0) : NetC c w' g last l := by
  obtain ⟨b, h⟩ := h; exact ⟨b, h.turns hT hF⟩
theorem NetC.below (h : NetC c w g last l) (hb : Below w.heap.size w w') : NetC c w' g last l := by
  obtain ⟨b, h⟩ := h; exact ⟨b, h.below hb⟩
theorem NetC.re (h : NetC c w g last l) (hc : ∀ k, k < w.heap.size → c' k = c k) : NetC c' w g last l := by
  obtain ⟨b, h⟩ := h; exact ⟨b, h.re hc⟩
end
theorem setK_newN {α : Type} (k : Int) (v : α) : ∀ l : List (Int × α), (∀ x ∈ l, x.1 ≠ k) → setK k v l = l ++ [(k, v)]
  | [], _ => rfl
  | (a, u) :: r, h => by
    rw [setK, if_neg (fun e => h (a, u) (by simp) e.symm), setK_newN k v r (fun x hx => h x (by simp [hx]))]; rfl
theorem New_net (w : World) : CallP Try.prog 29 #[] (fun r w' => ∃ g c, r = .pointer (some ⟨g, 0, none⟩) ∧ (∀ k, k < w.heap.size → c k = 0) ∧ NetC c w' g 0 [] ∧ Below w.heap.size w w') w := by
  refine ⟨S29.calls _ _ ?_⟩
  unfold S29
  refine mkm ?_
  intro w1 hm1 hb1
  refine bd (cells := #[.map (some w.heap.size), .int .i64 0]) (by kernel_rfl) ?_
  refine bx ?_
  have hbl : Blk (w1.alloc (.cells (Value.agg #[.map (some w.heap.size), .int .i64 0]).cells 118)) w1.heap.size 118 #[.map (some w.heap.size), .int .i64 0] := Blk.new w1 118 _
  have ha := (Below.refl w1.heap.size w1).alloc (Nat.le_refl _) (.cells (Value.agg #[.map (some w.heap.size), .int .i64 0]).cells 118)
  have hlt := hm1.lt
  refine ⟨w1.heap.size, fun k => if k = w1.heap.size ∨ k = w.heap.size then 1 else 0, rfl, fun k hk => by simp only; rw [if_neg (by omega)], ⟨w.heap.size, by simp, by simp, by omega, hbl, hm1.below ha, fun x hx => by simp at hx⟩, below_then hb1 ha⟩
theorem Len_net (c : Nat → Nat) (w : World) (g last : Nat) (l : List (Int × Msg)) (h : NetC c w g last l) : CallP Try.prog 32 #[.pointer (some ⟨g, 0, none⟩)] (fun r w' => r = .int .i64 l.length ∧ w = w') w := by
  obtain ⟨b, h⟩ := h
  have c0 : w.cell? ⟨g, 0, none⟩ = some (.map (some b)) := h.blk.cell 0
  refine ⟨S32.calls _ _ _ ?_⟩
  unfold S32
  (repeat with_reducible first | refine fd n0 (by decide) ?_| refine ld one116 c0 ?_|refine z_a ?_|refine z_b ?_|refine z_c ?_|refine z_d ?_|refine z_e ?_|refine z_f ?_|refine z_g ?_|refine z_h ?_|refine z_i ?_|refine z_j ?_|refine z_k ?_|refine z_l ?_|refine z_m (by omega) ?_|refine z_n (by omega) ?_|refine z_o (by omega) ?_|refine z_p (by omega) ?_|refine z_q (by omega) ?_|refine z_r (by omega) ?_|refine z_s (by omega) ?_|refine z_t (by omega) ?_|refine z_u (by omega) ?_|refine z_v (by omega) ?_|refine z_w (by omega) ?_|refine z_x (by omega) ?_|refine z_y (by omega) ?_|refine z_z (by omega) ?_|refine z_A ?_|refine z_B ?_|refine z_C ?_|refine z_D ?_|refine z_E ?_|refine z_F ?_|refine z_G ?_|refine z_H ?_|refine z_I ?_|refine z_J ?_|refine z_K (by omega) (by decide) ?_|refine z_L (by omega) (by decide) ?_|refine z_M (by omega) ?_|refine z_N (by omega) ?_|refine z_O (by omega) ?_|refine z_P ?_|refine z_Q ?_|refine z_R ?_|refine z_S ?_|refine z_T ?_|refine z_U (by decide) ?_|refine z_V (by decide) ?_)
  refine lnm und116 h.map ?_
  rw [List.length_map]
  exact ⟨rfl, rfl⟩
/-- What a call leaves: the net, and that nothing else has turned. -/
def LeftN (c : Nat → Nat) (w : World) (g last : Nat) (l : List (Int × Msg)) (w' : World) : Prop := ∃ c', (∀ k, k < w.heap.size → c' k = c k) ∧ NetC c' w' g last l ∧ Turns (D c) w w'
/-- A letter as it is handed in. -/
theorem add_net (c : Nat → Nat) (w : World) (g last : Nat) (l : List (Int × Msg)) (L : Let) (p q : Value) (ps : List PairT) (is : List IntentT) (h : NetC c w g last l) (hlast : last ≤ 1000000000)
    (hp : Pairs w [p] ps) (hq : Intents w [q] is) (hl : ps.length ≤ 256) (hl2 : is.length ≤ 256)
    (hpc : ps = [] ∨ ∀ k, p.ownBlock = some k → c k ≠ 1) (hqc : is = [] ∨ ∀ k, q.ownBlock = some k → c k ≠ 1) :
    CallP Try.prog 60 #[.pointer (some ⟨g, 0, none⟩), .agg (L.cells p q)] (fun r w' => if 4096 ≤ l.length then r = .tuple #[.int .i64 0, .int .i64 17] ∧ LeftN c w g last l w'
      else r = .tuple #[.int .i64 ((last + 1 : Nat) : Int), .int .i64 0] ∧ ∃ p' q', LeftN c w g (last + 1) (l ++ [(((last + 1 : Nat) : Int), ⟨L, p', q', ps, is⟩)]) w') w := by
  have hC := h
  obtain ⟨b, h⟩ := h
  refine ⟨S60.calls _ _ _ _ ?_⟩
  unfold S60
  refine bx ?_
  have hL : Blk (w.alloc (.cells (Value.agg (L.cells p q)).cells 58)) w.heap.size 58 (L.cells p q) := Blk.new w 58 _
  have ha := (Below.refl w.heap.size w).alloc (Nat.le_refl _) (.cells (Value.agg (L.cells p q)).cells 58)
  generalize w.alloc (.cells (Value.agg (L.cells p q)).cells 58) = w1 at *
  have h1 := (h.re (col_lt c w.heap.size (last + 11))).below ha
  have hg0 := hL.lt
  have c0 : w1.cell? ⟨g, 0, none⟩ = some (.map (some b)) := h1.blk.cell 0
  have c1 : w1.cell? ⟨g, 1, none⟩ = some (.int .i64 last) := h1.blk.cell 1
  (repeat with_reducible first | refine fd n0 (by decide) ?_| refine ld one116 c0 ?_|refine z_a ?_|refine z_b ?_|refine z_c ?_|refine z_d ?_|refine z_e ?_|refine z_f ?_|refine z_g ?_|refine z_h ?_|refine z_i ?_|refine z_j ?_|refine z_k ?_|refine z_l ?_|refine z_m (by omega) ?_|refine z_n (by omega) ?_|refine z_o (by omega) ?_|refine z_p (by omega) ?_|refine z_q (by omega) ?_|refine z_r (by omega) ?_|refine z_s (by omega) ?_|refine z_t (by omega) ?_|refine z_u (by omega) ?_|refine z_v (by omega) ?_|refine z_w (by omega) ?_|refine z_x (by omega) ?_|refine z_y (by omega) ?_|refine z_z (by omega) ?_|refine z_A ?_|refine z_B ?_|refine z_C ?_|refine z_D ?_|refine z_E ?_|refine z_F ?_|refine z_G ?_|refine z_H ?_|refine z_I ?_|refine z_J ?_|refine z_K (by omega) (by decide) ?_|refine z_L (by omega) (by decide) ?_|refine z_M (by omega) ?_|refine z_N (by omega) ?_|refine z_O (by omega) ?_|refine z_P ?_|refine z_Q ?_|refine z_R ?_|refine z_S ?_|refine z_T ?_|refine z_U (by decide) ?_|refine z_V (by decide) ?_)
  refine lnm und116 h1.map ?_
  rw [List.length_map]
  refine bi_geq_c (fun hfull => ?_) (fun hfull => ?_)
  · (repeat with_reducible first|refine z_a ?_|refine z_b ?_|refine z_c ?_|refine z_d ?_|refine z_e ?_|refine z_f ?_|refine z_g ?_|refine z_h ?_|refine z_i ?_|refine z_j ?_|refine z_k ?_|refine z_l ?_|refine z_m (by omega) ?_|refine z_n (by omega) ?_|refine z_o (by omega) ?_|refine z_p (by omega) ?_|refine z_q (by omega) ?_|refine z_r (by omega) ?_|refine z_s (by omega) ?_|refine z_t (by omega) ?_|refine z_u (by omega) ?_|refine z_v (by omega) ?_|refine z_w (by omega) ?_|refine z_x (by omega) ?_|refine z_y (by omega) ?_|refine z_z (by omega) ?_|refine z_A ?_|refine z_B ?_|refine z_C ?_|refine z_D ?_|refine z_E ?_|refine z_F ?_|refine z_G ?_|refine z_H ?_|refine z_I ?_|refine z_J ?_|refine z_K (by omega) (by decide) ?_|refine z_L (by omega) (by decide) ?_|refine z_M (by omega) ?_|refine z_N (by omega) ?_|refine z_O (by omega) ?_|refine z_P ?_|refine z_Q ?_|refine z_R ?_|refine z_S ?_|refine z_T ?_|refine z_U (by decide) ?_|refine z_V (by decide) ?_)
    show ite _ _ _
    rw [if_pos (by omega)]
    exact ⟨rfl, c, fun _ _ => rfl, hC.below ha, Turns.of_below ha⟩
  (repeat with_reducible first | refine fd n1 (by decide) ?_| refine ld one3 c1 ?_| refine fd n1 (by decide) ?_|refine z_a ?_|refine z_b ?_|refine z_c ?_|refine z_d ?_|refine z_e ?_|refine z_f ?_|refine z_g ?_|refine z_h ?_|refine z_i ?_|refine z_j ?_|refine z_k ?_|refine z_l ?_|refine z_m (by omega) ?_|refine z_n (by omega) ?_|refine z_o (by omega) ?_|refine z_p (by omega) ?_|refine z_q (by omega) ?_|refine z_r (by omega) ?_|refine z_s (by omega) ?_|refine z_t (by omega) ?_|refine z_u (by omega) ?_|refine z_v (by omega) ?_|refine z_w (by omega) ?_|refine z_x (by omega) ?_|refine z_y (by omega) ?_|refine z_z (by omega) ?_|refine z_A ?_|refine z_B ?_|refine z_C ?_|refine z_D ?_|refine z_E ?_|refine z_F ?_|refine z_G ?_|refine z_H ?_|refine z_I ?_|refine z_J ?_|refine z_K (by omega) (by decide) ?_|refine z_L (by omega) (by decide) ?_|refine z_M (by omega) ?_|refine z_N (by omega) ?_|refine z_O (by omega) ?_|refine z_P ?_|refine z_Q ?_|refine z_R ?_|refine z_S ?_|refine z_T ?_|refine z_U (by decide) ?_|refine z_V (by decide) ?_)
  rw [show ((last : Int) + 1) = ((last + 1 : Nat) : Int) from by omega]
  refine st sz3 rfl (by rw [c1]; rfl) (h1.blk.frozen 1) ?_
  have hT2 := Turns.setCell (F := fun k => k = g) (p := ⟨g, 1, none⟩) (Turns.refl _ w1) (.inl rfl) (.int .i64 ((last + 1 : Nat) : Int))
  have hblk2 := h1.blk.set_ 1 (.int .i64 ((last + 1 : Nat) : Int))
  have hgl : g ≠ w.heap.size := by have := h.blk.lt; omega
  have hL2 := hL.turns hT2 (fun e => hgl e.symm)
  have hm2 := h1.map.turns hT2 (fun e => h1.ne e.symm)
  have hel2 : ∀ x ∈ l, MsgAt (col c w.heap.size (last + 11)) (x.1.toNat + 10) _ x.2 := fun x hx => (h1.el x hx).2.turns hT2 (fun k hk => by rw [hk, h1.hue]; omega)
  have hTw : Turns (D c) w (w1.setCell ⟨g, 1, none⟩ (.int .i64 ((last + 1 : Nat) : Int))) := (Turns.of_below ha).setCell (.inl (by show c g ≠ 0; rw [h.hue]; omega)) _
  have hp2 : Pairs (w1.setCell ⟨g, 1, none⟩ (.int .i64 ((last + 1 : Nat) : Int))) [p] ps := rRow.turns rPair_all (keeps_Pairs _ _ _ _ ha hp) (by decide) hT2 (hpc.imp_right fun hc k hk he => hc k hk (by rw [he]; exact h.hue))
  have hq2 : Intents (w1.setCell ⟨g, 1, none⟩ (.int .i64 ((last + 1 : Nat) : Int))) [q] is := rRow.turns rIntent_all (keeps_Intents _ _ _ _ ha hq) (by decide) hT2 (hqc.imp_right fun hc k hk he => hc k hk (by rw [he]; exact h.hue))
  have hsz2 : (w1.setCell ⟨g, 1, none⟩ (.int .i64 ((last + 1 : Nat) : Int))).heap.size = w1.heap.size := by simp [World.setCell]
  have hblk2' : Blk (w1.setCell ⟨g, 1, none⟩ (.int .i64 ((last + 1 : Nat) : Int))) g 118 #[.map (some b), .int .i64 ((last + 1 : Nat) : Int)] := hblk2
  generalize w1.setCell ⟨g, 1, none⟩ (.int .i64 ((last + 1 : Nat) : Int)) = w2 at *
  have hdr : Below w2.heap.size w2 w2.drew := (Below.refl _ _).drew
  have d0 : ∀ w', (Blk w' g 118 #[.map (some b), .int .i64 ((last + 1 : Nat) : Int)] ∧ Blk w' w.heap.size 58 (L.cells p q)) → w'.cell? ⟨g, 0, none⟩ = some (.map (some b)) := fun w' h => h.1.cell 0
  have d1 : ∀ w', (Blk w' g 118 #[.map (some b), .int .i64 ((last + 1 : Nat) : Int)] ∧ Blk w' w.heap.size 58 (L.cells p q)) → w'.cell? ⟨g, 1, none⟩ = some (.int .i64 ((last + 1 : Nat) : Int)) := fun w' h => h.1.cell 1
  refine draw (fun w' => Blk w' g 118 #[.map (some b), .int .i64 ((last + 1 : Nat) : Int)] ∧ Blk w' w.heap.size 58 (L.cells p q)) ⟨hblk2'.below' hdr, hL2.below' hdr⟩ ?_
  (repeat with_reducible first | refine yfd n0 (by decide) ?_| refine yl1 one116 d0 ?_| refine yfd n1 (by decide) ?_| refine yl1 one3 d1 ?_|refine z_W ?_|refine z_a ?_|refine z_b ?_|refine z_c ?_|refine z_d ?_|refine z_e ?_|refine z_f ?_|refine z_g ?_|refine z_h ?_|refine z_i ?_|refine z_j ?_|refine z_k ?_|refine z_l ?_|refine z_X (by omega) ?_|refine z_Y (by omega) ?_|refine z_Z (by omega) ?_|refine z_a1 (by omega) ?_|refine z_b1 (by omega) ?_|refine z_c1 (by omega) ?_|refine z_d1 (by omega) ?_|refine z_e1 (by omega) ?_|refine z_f1 (by omega) ?_|refine z_g1 (by omega) ?_|refine z_h1 (by omega) ?_|refine z_i1 (by omega) ?_|refine z_j1 (by omega) ?_|refine z_k1 (by omega) ?_|refine z_l1 ?_|refine z_m1 ?_|refine z_n1 ?_|refine z_o1 ?_|refine z_p1 ?_|refine z_q1 ?_|refine z_r1 ?_|refine z_s1 ?_|refine z_t1 ?_|refine z_u1 ?_|refine z_v1 (by omega) (by decide) ?_|refine z_w1 (by omega) (by decide) ?_|refine z_x1 (by omega) ?_|refine z_y1 (by omega) ?_|refine z_z1 (by omega) ?_|refine z_A1 ?_|refine z_B1 ?_|refine z_C1 ?_|refine z_D1 ?_|refine z_E1 ?_|refine z_F1 (by decide) ?_|refine z_G1 (by decide) ?_)
  refine yldA agg58 (fun w' h => h.2) (by exact sz58) ?_
  refine act ?_
  refine (Copy_spec L p q ps is w2.drew (keeps_Pairs _ _ _ _ hdr hp2) (keeps_Intents _ _ _ _ hdr hq2) (by omega) (by omega)).mono ?_
  rintro _ w3 ⟨p', q', rfl, hop, hoq, hfp, hfq, hapart, hb3⟩
  have hb23 := below_then hdr hb3
  have hsd := hdr.size
  refine ⟨_, ⟨hblk2'.below' hb23, hL2.below' hb23⟩, fun _ h => h, ?_⟩
  refine mup und116 und3 (hm2.below hb23) (wf64 (by omega)) (by rw [List.length_map]; show l.length < maxLen; simp only [maxLen]; omega) ?_
  intro w4 hm4 hT4
  have hblk4 := (hblk2'.below' hb23).turns hT4 h1.ne
  have c1' : w4.cell? ⟨g, 1, none⟩ = some (.int .i64 ((last + 1 : Nat) : Int)) := hblk4.cell 1
  (repeat with_reducible first | refine fd n1 (by decide) ?_| refine ld one3 c1' ?_|refine z_a ?_|refine z_b ?_|refine z_c ?_|refine z_d ?_|refine z_e ?_|refine z_f ?_|refine z_g ?_|refine z_h ?_|refine z_i ?_|refine z_j ?_|refine z_k ?_|refine z_l ?_|refine z_m (by omega) ?_|refine z_n (by omega) ?_|refine z_o (by omega) ?_|refine z_p (by omega) ?_|refine z_q (by omega) ?_|refine z_r (by omega) ?_|refine z_s (by omega) ?_|refine z_t (by omega) ?_|refine z_u (by omega) ?_|refine z_v (by omega) ?_|refine z_w (by omega) ?_|refine z_x (by omega) ?_|refine z_y (by omega) ?_|refine z_z (by omega) ?_|refine z_A ?_|refine z_B ?_|refine z_C ?_|refine z_D ?_|refine z_E ?_|refine z_F ?_|refine z_G ?_|refine z_H ?_|refine z_I ?_|refine z_J ?_|refine z_K (by omega) (by decide) ?_|refine z_L (by omega) (by decide) ?_|refine z_M (by omega) ?_|refine z_N (by omega) ?_|refine z_O (by omega) ?_|refine z_P ?_|refine z_Q ?_|refine z_R ?_|refine z_S ?_|refine z_T ?_|refine z_U (by decide) ?_|refine z_V (by decide) ?_)
  show ite _ _ _
  rw [if_neg (by omega)]
  have hcb : col c w.heap.size (last + 11) b = 1 := h1.huem
  have hfresh : ∀ {v : Value}, Fresh w2.drew.heap.size v → InC (col c w.heap.size (last + 11)) (last + 11) v := fun hf k hk => col_ge _ _ _ (by have := hf k hk; omega)
  refine ⟨rfl, p', q', col c w.heap.size (last + 11), col_lt _ _ _, ⟨b, h1.hue, h1.huem, h1.ne, hblk4, ?_, ?_⟩, ?_⟩
  · rw [setK_newN _ _ _ (fun x hx => by
      obtain ⟨y, hy, rfl⟩ := List.mem_map.1 hx
      have := (h1.el y hy).1.2
      simp only
      omega)] at hm4
    rw [List.map_append]
    exact hm4
  · intro x hx
    rcases List.mem_append.1 hx with hx | hx
    · refine ⟨⟨(h1.el x hx).1.1, by have := (h1.el x hx).1.2; omega⟩, ((hel2 x hx).turns (Turns.of_below (F := fun _ => False) hb23) (fun _ h => h.elim)).turns hT4 (fun k hk => by rw [hk, hcb]; omega)⟩
    · simp only [List.mem_cons, List.not_mem_nil, or_false] at hx
      subst hx
      refine ⟨⟨by simp only; omega, by simp only; omega⟩, ?_⟩
      have hcol : (((last + 1 : Nat) : Int)).toNat + 10 = last + 11 := by omega
      simp only [hcol]
      have hne : ∀ {v : Value}, InC (col c w.heap.size (last + 11)) (last + 11) v → ∀ k, v.ownBlock = some k → ¬ k = b := fun hv k hk he => by
        have := hv k hk
        rw [he, hcb] at this; omega
      exact ⟨hop.turns hT4 (hne (hfresh hfp)), hoq.turns hT4 (hne (hfresh hfq)), hfresh hfp, hfresh hfq, pairs_ok hp, intents_ok hq, hl, hl2, hapart⟩
  · refine (hTw.then_below hb23).trans (hT4.mono fun k hk he => ?_)
    rw [he]
    exact .inl (by show c b ≠ 0; rw [h.huem]; omega)
end Go.Proofs.Ythicbfopjakiiaa.E
