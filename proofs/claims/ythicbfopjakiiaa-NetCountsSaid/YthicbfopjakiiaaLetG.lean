/- Pairs and intents compared; texts joined. -/
import Derived.Test.YthicbfopjakiiaaLetF
import Derived.Laws.StructEq
import Derived.Test.YthicbfopjakiiaaShNet
import Derived.Test.YthicbfopjakiiaaShNet2
namespace Go.Proofs.Ythicbfopjakiiaa.E
open Go Go.RowKit
set_option linter.unusedSimpArgs false
set_option linter.unusedVariables false

theorem und4 : Try.prog.underlying 4 = some .bool := by kernel_rfl
def flat1 : TypeDesc → Bool
  | .struct _ | .array _ _ => false
  | _ => true
theorem isAgg1 {t : TypeId} {d : TypeDesc} (h : Try.prog.underlying t = some d) (hd : flat1 d = true) (w : World) : (isAgg t).run Try.prog w = .ok false w := by
  unfold isAgg
  rw [Sem.run_bind, run_underlying h w]
  cases d <;> simp_all [flat1]
theorem part1 {t : TypeId} {d : TypeDesc} (h : Try.prog.underlying t = some d) (hd : flat1 d = true) (cs : Array Value) (o : Nat) (v : Value) (hv : cs[o]? = some v) (w : World) : (part t cs o).run Try.prog w = .ok v w := by
  unfold part
  rw [Sem.run_bind, isAgg1 h hd]
  simp [hv]
theorem eqFields_cons {f : Field} {fs : List Field} {d : Nat} {xs : Array Value} {w : World} {dd : TypeDesc} {u : Value} (hn : f.name ≠ "_") (h : Try.prog.underlying f.type = some dd) (hd : flat1 dd = true) (hx : xs[f.offset]? = some u)
    (he : (Op.equalIn d f.type u u).run Try.prog w = .ok true w) (hr : (Op.eqFields d xs xs fs).run Try.prog w = .ok true w) : (Op.eqFields d xs xs (f :: fs)).run Try.prog w = .ok true w := by
  simp only [Op.eqFields, Sem.run_bind, Sem.run_ite, hn, ne_eq, not_false_eq_true, if_true]
  simp [part1 h hd xs _ u hx, he, hr]
theorem neq_agg {t : TypeId} {x y : Operand} {xs : Array Value} (hg : Try.prog.eqGuardType Try.prog.depth t = false) (hs : Try.prog.underlying t = some (.struct (Try.prog.fieldsOf t))) (hh : Try.prog.stoodInHeld t = false)
    (hf : ∀ w, (Op.eqFields 9999 xs xs (Try.prog.fieldsOf t).toList).run Try.prog w = .ok true w) : PR Try.prog (binS .neq t x y (.agg xs) (.agg xs)) (.bool false) := by
  intro w
  simp only [binS, Sem.run_bind, run_eqGuard_agg w .neq t x y xs xs hg, Result.andThen_ok]
  rw [run_neq_struct, run_equalIn_agg w 9999 t xs xs hs hh, hf]
  rfl
theorem neq64 {x y : Operand} (a b : ByteArray) : PR Try.prog (binS .neq 64 x y (.agg #[.string a, .string b]) (.agg #[.string a, .string b])) (.bool false) := by
  refine neq_agg (by kernel_rfl) (by kernel_rfl) (by kernel_rfl) fun w => ?_
  have e : (Try.prog.fieldsOf 64).toList = [(Try.prog.fieldsOf 64)[0]!, (Try.prog.fieldsOf 64)[1]!] := by kernel_rfl
  rw [e]
  have t0 : ((Try.prog.fieldsOf 64)[0]!).type = 9 := by kernel_rfl
  have t1 : ((Try.prog.fieldsOf 64)[1]!).type = 9 := by kernel_rfl
  have o0 : ((Try.prog.fieldsOf 64)[0]!).offset = 0 := by kernel_rfl
  have o1 : ((Try.prog.fieldsOf 64)[1]!).offset = 1 := by kernel_rfl
  refine eqFields_cons (by decide +kernel) (by rw [t0]; exact und9) rfl (u := .string a) (by rw [o0]; rfl) (by rw [t0, run_equalIn_string w 9998 9 a a und9]; simp) ?_
  refine eqFields_cons (by decide +kernel) (by rw [t1]; exact und9) rfl (u := .string b) (by rw [o1]; rfl) (by rw [t1, run_equalIn_string w 9998 9 b b und9]; simp) ?_
  simp [Op.eqFields]
theorem neq68 {x y : Operand} (a : ByteArray) (n : Int) (b : Bool) : PR Try.prog (binS .neq 68 x y (.agg #[.string a, .int .i64 n, .bool b]) (.agg #[.string a, .int .i64 n, .bool b])) (.bool false) := by
  refine neq_agg (by kernel_rfl) (by kernel_rfl) (by kernel_rfl) fun w => ?_
  have e : (Try.prog.fieldsOf 68).toList = [(Try.prog.fieldsOf 68)[0]!, (Try.prog.fieldsOf 68)[1]!, (Try.prog.fieldsOf 68)[2]!] := by kernel_rfl
  rw [e]
  have t0 : ((Try.prog.fieldsOf 68)[0]!).type = 9 := by kernel_rfl
  have t1 : ((Try.prog.fieldsOf 68)[1]!).type = 3 := by kernel_rfl
  have t2 : ((Try.prog.fieldsOf 68)[2]!).type = 4 := by kernel_rfl
  have o0 : ((Try.prog.fieldsOf 68)[0]!).offset = 0 := by kernel_rfl
  have o1 : ((Try.prog.fieldsOf 68)[1]!).offset = 1 := by kernel_rfl
  have o2 : ((Try.prog.fieldsOf 68)[2]!).offset = 2 := by kernel_rfl
  refine eqFields_cons (by decide +kernel) (by rw [t0]; exact und9) rfl (u := .string a) (by rw [o0]; rfl) (by rw [t0, run_equalIn_string w 9998 9 a a und9]; simp) ?_
  refine eqFields_cons (by decide +kernel) (by rw [t1]; exact und3) rfl (u := .int .i64 n) (by rw [o1]; rfl) (by rw [t1, run_equalIn_int w 9998 3 .i64 .i64 n n und3]; simp) ?_
  refine eqFields_cons (by decide +kernel) (by rw [t2]; exact und4) rfl (u := .bool b) (by rw [o2]; rfl) (by rw [t2, run_equalIn_bool' w 9998 4 b b und4]; simp) ?_
  simp [Op.eqFields]
/-- Texts joined. -/
theorem pr_sadd {t : TypeId} {x y : Operand} {a b : ByteArray} (h : a.size + b.size ≤ 9223372036854775807) : PR Try.prog (binS .add t x y (.string a) (.string b)) (.string (a ++ b)) := by
  intro w
  simp [binS, binOp, Op.stringOp, eqGuard]
  omega
section
variable {P : Program} {K : Value → World → Prop} {S : World → Prop} {w : World}
theorem yixA {t e : TypeId} (h : P.underlying t = some (.slice e)) {s : Nat} (hs : (P.info? e).map (·.size) = some s) {a : Addr} {n c : Nat} {kd : IntKind} (i : Nat) (h1 : i < n)
    (k : K (.pointer (some (a.add (i * s)))) w) : YieldP P S (Instr.indexAt t (.slice (some a) n c) (.int kd (i : Int))) K w := by
  obtain ⟨j, hj, hs⟩ := Option.map_eq_some_iff.1 hs
  refine yld (v := .pointer (some (a.add (i * s)))) (fun w' _ => ?_) k
  simp [Instr.indexAt, run_underlying h, asIntOf, h1, sizeOf, typeInfo, hj, hs]
theorem yfdA {s : TypeId} {i o n : Nat} (h : fofs P s i = some (o, n)) (hn : n ≠ 0) {a : Addr} (k : K (.pointer (some (a.add o))) w) : YieldP P S (Instr.fieldAt s (.pointer (some a)) i) K w := yld (fun w' _ => run_fd h hn a w') k
theorem fdA {s : TypeId} {i o n : Nat} (h : fofs P s i = some (o, n)) (hn : n ≠ 0) {a : Addr} (k : K (.pointer (some (a.add o))) w) : LiftP P (Instr.fieldAt s (.pointer (some a)) i) K w := lift (run_fd h hn a w) k
theorem yldR {t : TypeId} (ha : aggB P t = true) {a : Addr} {us : List Value} (hc : ∀ w', S w' → ∀ j u, us[j]? = some u → w'.cell? (a.add j) = some u) (hi : (P.info? t).map (·.size) = some us.length)
    (k : K (.agg us.toArray) w) : YieldP P S (Instr.loadAt t (.pointer (some a))) K w := by
  refine yld (v := .agg us.toArray) (fun w' hw => ?_) k
  unfold aggB at ha
  cases hu : P.underlying t with
  | none => rw [hu] at ha; cases ha
  | some d =>
    rw [hu] at ha
    have hl : (loadCells a us.length).run P w' = .ok us.toArray w' := run_loadCells_list (P := P) w' a us (hc w' hw)
    cases hq : P.info? t with
    | none => simp [hq] at hi
    | some i =>
      have hs : i.size = us.length := by simpa [hq] using hi
      have hagg : (isAgg t).run P w' = .ok true w' := by
        unfold isAgg
        rw [Sem.run_bind, run_underlying hu w']
        cases d <;> simp_all
      simp [Instr.loadAt, Instr.sureAddr, loadVar, Sem.run_bind, hagg, sizeOf, typeInfo, hq, hs, hl]
theorem ylns {t ty : TypeId} (h : P.underlying t = some .string) {cs : Array Bool} {s : ByteArray} (k : K (.int .i64 s.size) w) : YieldN P S (builtin .len #[t] ty cs #[.string s]) K w :=
  yldN (v := .int .i64 s.size) (fun w' _ => by
    have := run_len_string (P := P) w' t ty s h
    simp only [builtin] at this ⊢
    simp [this, goInt]) k
end
theorem und81 : Try.prog.underlying 81 = some (.slice 3) := by kernel_rfl
theorem SameIntents_spec (v u : Value) (is : List IntentT) (w : World) (hv : Intents w [v] is) (hu : Intents w [u] is) : CallP Try.prog 62 #[v, u] (fun r w' => r = .bool true ∧ Below w.heap.size w w') w := by
  obtain ⟨A, c, rfl, hc, hm⟩ := hv.slice
  obtain ⟨A', c', rfl, hc', hm'⟩ := hu.slice
  refine ⟨S62.calls _ _ _ _ ?_⟩
  unfold S62
  refine ln und56 ?_
  refine ln und56 ?_
  (repeat (first | (with_reducible refine nck ?_) | (with_reducible refine cdT ?_) | (with_reducible refine cdF ?_) | (with_reducible refine gdY ?_) | (with_reducible refine gdFT ?_) | (with_reducible refine gdTF ?_) | (with_reducible refine gdU ?_) | (with_reducible refine gaY ?_) | (with_reducible refine gaFT ?_) | (with_reducible refine gaTF ?_) | (with_reducible refine pickT ?_) | (with_reducible refine pickF ?_) | (with_reducible refine bi_lss_t (by omega) ?_) | (with_reducible refine bi_lss_f (by omega) ?_) | (with_reducible refine bi_add64 (by omega) ?_) | (with_reducible refine bi_sub64 (by omega) ?_) | (with_reducible refine bi_eql_t (by omega) ?_) | (with_reducible refine bi_eql_f (by omega) ?_) | (with_reducible refine bi_neq_t (by omega) ?_) | (with_reducible refine bi_neq_f (by omega) ?_) | (with_reducible refine bi_gtr_t (by omega) ?_) | (with_reducible refine bi_gtr_f (by omega) ?_) | (with_reducible refine bi_leq_t (by omega) ?_) | (with_reducible refine bi_leq_f (by omega) ?_) | (with_reducible refine bi_geq_t (by omega) ?_) | (with_reducible refine bi_geq_f (by omega) ?_) | (with_reducible refine bi_xt0 ?_) | (with_reducible refine bi_xt1 ?_) | (with_reducible refine bi_xt2 ?_) | (with_reducible refine bi_xt3 ?_) | (with_reducible refine bi_T ?_) | (with_reducible refine bi_F ?_) | (with_reducible refine bi_not ?_) | (with_reducible refine bi_and ?_) | (with_reducible refine bi_or ?_) | (with_reducible refine bi_xor ?_) | (with_reducible refine bi_shr (by omega) (by decide) ?_) | (with_reducible refine bi_shl (by omega) (by decide) ?_) | (with_reducible refine bi_quo64 (by omega) ?_) | (with_reducible refine bi_rem64 (by omega) ?_) | (with_reducible refine bi_mul64 (by omega) ?_) | (with_reducible refine bi_neg ?_) | (with_reducible refine bi_un_xor32 ?_) | (with_reducible refine bi_add ?_) | (with_reducible refine bi_sub ?_) | (with_reducible refine bi_mul ?_) | (with_reducible refine bi_quo (by decide) ?_) | (with_reducible refine bi_rem (by decide) ?_)))
  refine LoopP.inv1 (fun i w' => ∃ k : Nat, k ≤ is.length ∧ i = .int .i64 k ∧ Below w.heap.size w w') (fun i _ => is.length - (intOf i).toNat) ⟨0, by omega, rfl, Below.refl _ w⟩ ?_
  rintro _ w1 ⟨k, hk, rfl, hb1⟩ J hJ
  dsimp only [List.headD_cons, List.tail_cons]
  refine ln und56 ?_
  refine bi_lss_c (fun h => ?_) (fun h => ?_)
  · have hk' : k < is.length := by omega
    have hdr : Below w1.heap.size w1 w1.drew := (Below.refl _ _).drew
    obtain ⟨a, us, rfl, hus, hcell, hrd⟩ := rRow.at (keeps_Intents _ _ _ _ hb1 hv) k hk'
    obtain ⟨rfl, _⟩ := intent_cells hrd
    obtain ⟨a', us', rfl, hus', hcell', hrd'⟩ := rRow.at (keeps_Intents _ _ _ _ hb1 hu) k hk'
    obtain ⟨rfl, _⟩ := intent_cells hrd'
    have keep : ∀ {a : Addr} {us : List Value}, (∀ j u, us[j]? = some u → w1.cell? (a.add j) = some u) → ∀ w', Below w1.heap.size w1 w' → ∀ j u, us[j]? = some u → w'.cell? (a.add j) = some u := fun h w' hb j u hu => by rw [hb.cell (World.block_lt_of_cell? _ _ (h j u hu)), h j u hu]
    (repeat (first | (with_reducible refine nck ?_) | (with_reducible refine cdT ?_) | (with_reducible refine cdF ?_) | (with_reducible refine gdY ?_) | (with_reducible refine gdFT ?_) | (with_reducible refine gdTF ?_) | (with_reducible refine gdU ?_) | (with_reducible refine gaY ?_) | (with_reducible refine gaFT ?_) | (with_reducible refine gaTF ?_) | (with_reducible refine pickT ?_) | (with_reducible refine pickF ?_) | (with_reducible refine bi_lss_t (by omega) ?_) | (with_reducible refine bi_lss_f (by omega) ?_) | (with_reducible refine bi_add64 (by omega) ?_) | (with_reducible refine bi_sub64 (by omega) ?_) | (with_reducible refine bi_eql_t (by omega) ?_) | (with_reducible refine bi_eql_f (by omega) ?_) | (with_reducible refine bi_neq_t (by omega) ?_) | (with_reducible refine bi_neq_f (by omega) ?_) | (with_reducible refine bi_gtr_t (by omega) ?_) | (with_reducible refine bi_gtr_f (by omega) ?_) | (with_reducible refine bi_leq_t (by omega) ?_) | (with_reducible refine bi_leq_f (by omega) ?_) | (with_reducible refine bi_geq_t (by omega) ?_) | (with_reducible refine bi_geq_f (by omega) ?_) | (with_reducible refine bi_xt0 ?_) | (with_reducible refine bi_xt1 ?_) | (with_reducible refine bi_xt2 ?_) | (with_reducible refine bi_xt3 ?_) | (with_reducible refine bi_T ?_) | (with_reducible refine bi_F ?_) | (with_reducible refine bi_not ?_) | (with_reducible refine bi_and ?_) | (with_reducible refine bi_or ?_) | (with_reducible refine bi_xor ?_) | (with_reducible refine bi_shr (by omega) (by decide) ?_) | (with_reducible refine bi_shl (by omega) (by decide) ?_) | (with_reducible refine bi_quo64 (by omega) ?_) | (with_reducible refine bi_rem64 (by omega) ?_) | (with_reducible refine bi_mul64 (by omega) ?_) | (with_reducible refine bi_neg ?_) | (with_reducible refine bi_un_xor32 ?_) | (with_reducible refine bi_add ?_) | (with_reducible refine bi_sub ?_) | (with_reducible refine bi_mul ?_) | (with_reducible refine bi_quo (by decide) ?_) | (with_reducible refine bi_rem (by decide) ?_)))
    refine draw (Below w1.heap.size w1) hdr ?_
    refine yixA und56 sz68 k hk' ?_
    refine yldR agg68 (keep hcell) (by rw [sz68]; rfl) ?_
    refine yixA und56 sz68 k hk' ?_
    refine yldR agg68 (keep hcell') (by rw [sz68]; rfl) ?_
    refine yofPR (neq68 is[k].1 is[k].2.1 is[k].2.2.1) ?_
    (repeat (first | (with_reducible refine nck ?_) | (with_reducible refine cdT ?_) | (with_reducible refine cdF ?_) | (with_reducible refine gdY ?_) | (with_reducible refine gdFT ?_) | (with_reducible refine gdTF ?_) | (with_reducible refine gdU ?_) | (with_reducible refine gaY ?_) | (with_reducible refine gaFT ?_) | (with_reducible refine gaTF ?_) | (with_reducible refine pickT ?_) | (with_reducible refine pickF ?_) | (with_reducible refine bi_lss_t (by omega) ?_) | (with_reducible refine bi_lss_f (by omega) ?_) | (with_reducible refine bi_add64 (by omega) ?_) | (with_reducible refine bi_sub64 (by omega) ?_) | (with_reducible refine bi_eql_t (by omega) ?_) | (with_reducible refine bi_eql_f (by omega) ?_) | (with_reducible refine bi_neq_t (by omega) ?_) | (with_reducible refine bi_neq_f (by omega) ?_) | (with_reducible refine bi_gtr_t (by omega) ?_) | (with_reducible refine bi_gtr_f (by omega) ?_) | (with_reducible refine bi_leq_t (by omega) ?_) | (with_reducible refine bi_leq_f (by omega) ?_) | (with_reducible refine bi_geq_t (by omega) ?_) | (with_reducible refine bi_geq_f (by omega) ?_) | (with_reducible refine bi_xt0 ?_) | (with_reducible refine bi_xt1 ?_) | (with_reducible refine bi_xt2 ?_) | (with_reducible refine bi_xt3 ?_) | (with_reducible refine bi_T ?_) | (with_reducible refine bi_F ?_) | (with_reducible refine bi_not ?_) | (with_reducible refine bi_and ?_) | (with_reducible refine bi_or ?_) | (with_reducible refine bi_xor ?_) | (with_reducible refine bi_shr (by omega) (by decide) ?_) | (with_reducible refine bi_shl (by omega) (by decide) ?_) | (with_reducible refine bi_quo64 (by omega) ?_) | (with_reducible refine bi_rem64 (by omega) ?_) | (with_reducible refine bi_mul64 (by omega) ?_) | (with_reducible refine bi_neg ?_) | (with_reducible refine bi_un_xor32 ?_) | (with_reducible refine bi_add ?_) | (with_reducible refine bi_sub ?_) | (with_reducible refine bi_mul ?_) | (with_reducible refine bi_quo (by decide) ?_) | (with_reducible refine bi_rem (by decide) ?_)))
    exact hJ _ _ ⟨k + 1, by omega, by simp, below_then hb1 hdr⟩ (by simp [intOf]; omega)
  · (repeat (first | (with_reducible refine nck ?_) | (with_reducible refine cdT ?_) | (with_reducible refine cdF ?_) | (with_reducible refine gdY ?_) | (with_reducible refine gdFT ?_) | (with_reducible refine gdTF ?_) | (with_reducible refine gdU ?_) | (with_reducible refine gaY ?_) | (with_reducible refine gaFT ?_) | (with_reducible refine gaTF ?_) | (with_reducible refine pickT ?_) | (with_reducible refine pickF ?_) | (with_reducible refine bi_lss_t (by omega) ?_) | (with_reducible refine bi_lss_f (by omega) ?_) | (with_reducible refine bi_add64 (by omega) ?_) | (with_reducible refine bi_sub64 (by omega) ?_) | (with_reducible refine bi_eql_t (by omega) ?_) | (with_reducible refine bi_eql_f (by omega) ?_) | (with_reducible refine bi_neq_t (by omega) ?_) | (with_reducible refine bi_neq_f (by omega) ?_) | (with_reducible refine bi_gtr_t (by omega) ?_) | (with_reducible refine bi_gtr_f (by omega) ?_) | (with_reducible refine bi_leq_t (by omega) ?_) | (with_reducible refine bi_leq_f (by omega) ?_) | (with_reducible refine bi_geq_t (by omega) ?_) | (with_reducible refine bi_geq_f (by omega) ?_) | (with_reducible refine bi_xt0 ?_) | (with_reducible refine bi_xt1 ?_) | (with_reducible refine bi_xt2 ?_) | (with_reducible refine bi_xt3 ?_) | (with_reducible refine bi_T ?_) | (with_reducible refine bi_F ?_) | (with_reducible refine bi_not ?_) | (with_reducible refine bi_and ?_) | (with_reducible refine bi_or ?_) | (with_reducible refine bi_xor ?_) | (with_reducible refine bi_shr (by omega) (by decide) ?_) | (with_reducible refine bi_shl (by omega) (by decide) ?_) | (with_reducible refine bi_quo64 (by omega) ?_) | (with_reducible refine bi_rem64 (by omega) ?_) | (with_reducible refine bi_mul64 (by omega) ?_) | (with_reducible refine bi_neg ?_) | (with_reducible refine bi_un_xor32 ?_) | (with_reducible refine bi_add ?_) | (with_reducible refine bi_sub ?_) | (with_reducible refine bi_mul ?_) | (with_reducible refine bi_quo (by decide) ?_) | (with_reducible refine bi_rem (by decide) ?_)))
    exact ⟨rfl, hb1⟩
theorem numbers63_spec (L : Let) (p q : Value) (w : World) : CallP Try.prog 63 #[.agg (L.cells p q)] (fun r w' => (∃ A c, r = .slice A 7 c) ∧ Rd w' r (([L.frm, L.to, L.a, L.b, L.c, L.d, L.code] : List Int).map (Value.int .i64)) ∧ Below w.heap.size w w') w := by
  refine ⟨S63.calls _ _ _ ?_⟩
  unfold S63
  refine bx ?_
  have hL : Blk (w.alloc (.cells (Value.agg (L.cells p q)).cells 58)) w.heap.size 58 (L.cells p q) := Blk.new w 58 _
  have ha := (Below.refl w.heap.size w).alloc (Nat.le_refl _) (.cells (Value.agg (L.cells p q)).cells 58)
  generalize w.alloc (.cells (Value.agg (L.cells p q)).cells 58) = w1 at *
  have c1 : w1.cell? ⟨w.heap.size, 1, none⟩ = some (.int .i64 L.frm) := hL.cell 1
  have c2 : w1.cell? ⟨w.heap.size, 2, none⟩ = some (.int .i64 L.to) := hL.cell 2
  have c3 : w1.cell? ⟨w.heap.size, 3, none⟩ = some (.int .i64 L.a) := hL.cell 3
  have c4 : w1.cell? ⟨w.heap.size, 4, none⟩ = some (.int .i64 L.b) := hL.cell 4
  have c5 : w1.cell? ⟨w.heap.size, 5, none⟩ = some (.int .i64 L.c) := hL.cell 5
  have c6 : w1.cell? ⟨w.heap.size, 6, none⟩ = some (.int .i64 L.d) := hL.cell 6
  have c11 : w1.cell? ⟨w.heap.size, 11, none⟩ = some (.int .i64 L.code) := hL.cell 11
  (repeat (first | (with_reducible refine fd l1 (by decide) ?_) | (with_reducible refine fd l2 (by decide) ?_) | (with_reducible refine fd l3 (by decide) ?_) | (with_reducible refine fd l4 (by decide) ?_) | (with_reducible refine fd l5 (by decide) ?_) | (with_reducible refine fd l6 (by decide) ?_) | (with_reducible refine fd l11 (by decide) ?_) | (with_reducible refine ld one3 c1 ?_) | (with_reducible refine ld one3 c2 ?_) | (with_reducible refine ld one3 c3 ?_) | (with_reducible refine ld one3 c4 ?_) | (with_reducible refine ld one3 c5 ?_) | (with_reducible refine ld one3 c6 ?_) | (with_reducible refine ld one25 c11 ?_) | (with_reducible refine nck ?_) | (with_reducible refine cdT ?_) | (with_reducible refine cdF ?_) | (with_reducible refine gdY ?_) | (with_reducible refine gdFT ?_) | (with_reducible refine gdTF ?_) | (with_reducible refine gdU ?_) | (with_reducible refine gaY ?_) | (with_reducible refine gaFT ?_) | (with_reducible refine gaTF ?_) | (with_reducible refine pickT ?_) | (with_reducible refine pickF ?_) | (with_reducible refine bi_lss_t (by omega) ?_) | (with_reducible refine bi_lss_f (by omega) ?_) | (with_reducible refine bi_add64 (by omega) ?_) | (with_reducible refine bi_sub64 (by omega) ?_) | (with_reducible refine bi_eql_t (by omega) ?_) | (with_reducible refine bi_eql_f (by omega) ?_) | (with_reducible refine bi_neq_t (by omega) ?_) | (with_reducible refine bi_neq_f (by omega) ?_) | (with_reducible refine bi_gtr_t (by omega) ?_) | (with_reducible refine bi_gtr_f (by omega) ?_) | (with_reducible refine bi_leq_t (by omega) ?_) | (with_reducible refine bi_leq_f (by omega) ?_) | (with_reducible refine bi_geq_t (by omega) ?_) | (with_reducible refine bi_geq_f (by omega) ?_) | (with_reducible refine bi_xt0 ?_) | (with_reducible refine bi_xt1 ?_) | (with_reducible refine bi_xt2 ?_) | (with_reducible refine bi_xt3 ?_) | (with_reducible refine bi_T ?_) | (with_reducible refine bi_F ?_) | (with_reducible refine bi_not ?_) | (with_reducible refine bi_and ?_) | (with_reducible refine bi_or ?_) | (with_reducible refine bi_xor ?_) | (with_reducible refine bi_shr (by omega) (by decide) ?_) | (with_reducible refine bi_shl (by omega) (by decide) ?_) | (with_reducible refine bi_quo64 (by omega) ?_) | (with_reducible refine bi_rem64 (by omega) ?_) | (with_reducible refine bi_mul64 (by omega) ?_) | (with_reducible refine bi_neg ?_) | (with_reducible refine bi_un_xor32 ?_) | (with_reducible refine bi_add ?_) | (with_reducible refine bi_sub ?_) | (with_reducible refine bi_mul ?_) | (with_reducible refine bi_quo (by decide) ?_) | (with_reducible refine bi_rem (by decide) ?_)))
  refine lift (v := .slice (some ⟨w1.heap.size, 0, none⟩) 7 7) (w' := w1.alloc (.cells #[.int .i64 L.frm, .int .i64 L.to, .int .i64 L.a, .int .i64 L.b, .int .i64 L.c, .int .i64 L.d, .int .i64 L.code] 3)) (by kernel_rfl) ?_
  have ha2 := (Below.refl w1.heap.size w1).alloc (Nat.le_refl _) (.cells #[.int .i64 L.frm, .int .i64 L.to, .int .i64 L.a, .int .i64 L.b, .int .i64 L.c, .int .i64 L.d, .int .i64 L.code] 3)
  exact ⟨⟨_, _, rfl⟩, (Own.new w1 3 [.int .i64 L.frm, .int .i64 L.to, .int .i64 L.a, .int .i64 L.b, .int .i64 L.c, .int .i64 L.d, .int .i64 L.code] (by simp)).rd, below_then ha ha2⟩
end Go.Proofs.Ythicbfopjakiiaa.E
