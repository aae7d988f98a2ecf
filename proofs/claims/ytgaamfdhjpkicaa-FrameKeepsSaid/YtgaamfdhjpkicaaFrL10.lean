/- The law that what is handed in stays, and what is answered is new. -/
import Derived.Test.YtgaamfdhjpkicaaFrW4
import Derived.Test.YtgaamfdhjpkicaaE15
namespace Go.Proofs.Ytgaamfdhjpkicaa.E
open Go Go.RowKit
set_option linter.unusedSimpArgs false
set_option linter.unusedVariables false

/-- Of what stood there, only blocks from B1 on, below B2, have turned. -/
structure Mid (B1 B2 : Nat) (w w' : World) : Prop where
  os : w'.os = w.os
  tape : w'.tape = w.tape
  output : w'.output = w.output
  size : w.heap.size ≤ w'.heap.size
  block : ∀ k, k < w.heap.size → (k < B1 ∨ B2 ≤ k) → w'.heap[k]? = w.heap[k]?
theorem Mid.refl (B1 B2 : Nat) (w : World) : Mid B1 B2 w w := ⟨rfl, rfl, rfl, Nat.le_refl _, fun _ _ _ => rfl⟩
theorem Mid.drew {B1 B2 : Nat} {w w' : World} (h : Mid B1 B2 w w') : Mid B1 B2 w w'.drew := ⟨h.os, h.tape, h.output, h.size, h.block⟩
theorem Mid.set {B1 B2 : Nat} {w w' : World} (h : Mid B1 B2 w w') {p : Addr} (h1 : B1 ≤ p.block) (h2 : p.block < B2) (u : Value) : Mid B1 B2 w (w'.setCell p u) :=
  ⟨h.os, h.tape, h.output, by simp only [World.setCell, Array.size_modify]; exact h.size, fun k hk hb => by
    rw [Below.heap_setCell _ _ _ _ (by omega)]; exact h.block k hk hb⟩
theorem Mid.grown {B1 B2 : Nat} {w w' w'' : World} (h : Mid B1 B2 w w') (hg : w'.grownBy w'' none) : Mid B1 B2 w w'' :=
  ⟨hg.os.trans h.os, hg.tape.trans h.tape, hg.output.trans h.output, Nat.le_trans h.size hg.size, fun k hk hb => (hg.block k (Nat.lt_of_lt_of_le hk h.size) (by simp)).trans (h.block k hk hb)⟩
theorem Mid.below {B1 B2 : Nat} {w w' W : World} (h : Mid B1 B2 w w') (hb : Below W.heap.size W w) (hB : W.heap.size ≤ B1) : Below W.heap.size W w' :=
  ⟨h.os.trans hb.os, h.tape.trans hb.tape, h.output.trans hb.output, Nat.le_trans hb.size h.size, fun k hk => (h.block k (Nat.lt_of_lt_of_le hk hb.size) (.inl (by omega))).trans (hb.block k hk)⟩
theorem Own.same {e : TypeId} {w w' : World} {v : Value} {xs : List Value} (h : Own e w v xs) (hk : ∀ k, v.ownBlock = some k → w'.heap[k]? = w.heap[k]?) : Own e w' v xs := by
  refine ⟨h.1, ?_⟩
  rcases h.2 with h | ⟨g, cap, cur, rfl, h1, h2, h3⟩
  · exact .inl h
  · exact .inr ⟨g, cap, cur, rfl, h1, (hk g rfl).trans h2, h3⟩
theorem Rd.same {w w' : World} {v : Value} {cs : List Value} (h : Rd w v cs) (hk : ∀ k, v.ownBlock = some k → k < w.heap.size → w'.heap[k]? = w.heap[k]?) : Rd w' v cs := by
  obtain ⟨A, c, rfl, h1, h2, h3⟩ := h
  refine ⟨A, c, rfl, h1, h2, fun i u hu => ?_⟩
  obtain ⟨a, rfl, hc⟩ := h3 i u hu
  have e : (a.add i).block = a.block := by unfold Addr.add; split <;> rfl
  have hlt := World.block_lt_of_cell? w _ hc
  rw [e] at hlt
  refine ⟨a, rfl, (World.cell?_of_block (w := w) (a := a.add i) ?_).trans hc⟩
  rw [e]
  exact hk a.block rfl hlt
/-- What a scan answered reads as it did, where its blocks are as they were. -/
theorem RowE.same {w w' : World} {B : Nat} {l : Value} {acc : List (List UInt8)} (h : RowE w B l acc) (hf : Fresh B l) (hk : ∀ k, B ≤ k → k < w.heap.size → w'.heap[k]? = w.heap[k]?) : RdSS w' l acc := by
  obtain ⟨xs, h1, h2, _, h4⟩ := h
  refine RdSS.of (h1.same fun k hk' => hk k (hf k hk') (h1.lt hk')).rd h2 fun i g1 g2 => ?_
  obtain ⟨⟨hr, A, he, hz⟩, _⟩ := h4 i g1 g2
  by_cases hp : acc[i].length = 0
  · have : acc[i] = [] := List.eq_nil_of_length_eq_zero hp
    rw [this] at hr he ⊢
    rw [he]
    exact ⟨A, 0, rfl, Nat.le_refl _, by omega, fun i u hu => by simp at hu⟩
  · refine Rd.same hr fun k hk' hlt => hk k ?_ hlt
    obtain ⟨g, rfl, hB, _⟩ := hz 0 (by omega)
    rw [he] at hk'
    cases hk'
    exact hB

/-- u: a slice without room behind, whose cells are bytes, may be written, and lie in blocks from B1 on, below B2, not in gl. -/
def CE (B1 B2 : Nat) (gl : Option Nat) (w : World) (u : Value) (n : Nat) : Prop :=
  ∃ A, u = .slice A n n ∧ ∀ j, j < n → ∃ g, A = some ⟨g, 0, none⟩ ∧ B1 ≤ g ∧ g < B2 ∧ some g ≠ gl ∧ (∃ z : UInt8, w.cell? ⟨g, j, none⟩ = some (.int .u8 (z.toNat : Int))) ∧ w.frozen? ⟨g, j, none⟩ = false
theorem CE.same {B1 B2 : Nat} {gl : Option Nat} {w w' : World} {u : Value} {n : Nat} (h : CE B1 B2 gl w u n) (hk : ∀ g, B1 ≤ g → g < B2 → some g ≠ gl → w'.heap[g]? = w.heap[g]?) : CE B1 B2 gl w' u n := by
  obtain ⟨A, rfl, h⟩ := h
  refine ⟨A, rfl, fun j hj => ?_⟩
  obtain ⟨g, h1, h2, h3, h4, ⟨z, h5⟩, h6⟩ := h j hj
  refine ⟨g, h1, h2, h3, h4, ⟨z, (World.cell?_of_block (w := w) (a := ⟨g, j, none⟩) (hk g h2 h3 h4)).trans h5⟩, (World.frozen?_of_block (w := w) (a := ⟨g, j, none⟩) (hk g h2 h3 h4)).trans h6⟩
theorem CE.set {B1 B2 : Nat} {gl : Option Nat} {w : World} {u : Value} {n : Nat} (h : CE B1 B2 gl w u n) (p : Addr) (c : UInt8) : CE B1 B2 gl (w.setCell p (.int .u8 (c.toNat : Int))) u n := by
  obtain ⟨A, rfl, h⟩ := h
  refine ⟨A, rfl, fun j hj => ?_⟩
  obtain ⟨g, h1, h2, h3, h4, ⟨z, h5⟩, h6⟩ := h j hj
  refine ⟨g, h1, h2, h3, h4, ?_, by rw [World.frozen?_setCell]; exact h6⟩
  by_cases hp : p = ⟨g, j, none⟩
  · subst hp
    exact ⟨c, World.cell?_setCell_same' w _ _ (by rw [h5]; rfl)⟩
  · exact ⟨z, (World.cell?_setCell_other _ _ _ _ hp).trans h5⟩
theorem pr_sadd {P : Program} {t : TypeId} {x y : Operand} {a b : ByteArray} (h : a.size + b.size ≤ 9223372036854775807) : PR P (binS .add t x y (.string a) (.string b)) (.string (a ++ b)) := by
  intro w
  have h' : ¬ ((9223372036854775807 : Int) < (a.size : Int) + (b.size : Int)) := by omega
  have hm : IntKind.i64.max = 9223372036854775807 := by decide
  simp [binS, eqGuard_add, binOp, Op.stringOp, hm, h']

theorem xor_u8' (a b : UInt8) : Go.bits .xor .u8 (a.toNat : Int) (b.toNat : Int) = ((a ^^^ b).toNat : Int) := by
  show IntKind.u8.wrap _ = _
  have h : ∀ c : UInt8, BitVec.ofInt 8 (c.toNat : Int) = c.toBitVec := fun c => by
    apply BitVec.eq_of_toNat_eq
    have := c.toNat_lt
    simp
  have h2 : ∀ c : UInt8, IntKind.u8.wrap (c.toNat : Int) = (c.toNat : Int) := fun c => IntWalk.u8_in _ (by have := c.toNat_lt; omega)
  simp only [IntKind.bits, h]
  rw [← h2 (a ^^^ b)]
  rfl
theorem map_set9 (bs : List UInt8) (i : Nat) (b : UInt8) : (bs.map u8).set i (.int .u8 (b.toNat : Int)) = (bs.set i b).map u8 := by
  rw [List.map_set]; rfl
/-- The writes into what a scan answered: nothing else turns. -/
def LoopInv (B1 B2 : Nat) (l : Value) (ns : List Nat) (w : World) (k : Nat) (w' : World) : Prop :=
  Mid B1 B2 w w' ∧ ∃ xs, Own 23 w' l xs ∧ xs.length = ns.length ∧ (∀ u ∈ xs, u.oneCell' = true) ∧ ∀ i (h1 : i < xs.length) (h2 : i < ns.length), k ≤ i → CE B1 B2 l.ownBlock w' xs[i] ns[i]

theorem apC {K : Value → World → Prop} {w : World} {cs : Array Bool} {A : Option Addr} {n : Nat} {b : Addr} {c : Nat} {y : Value} (hA : ∀ j, j < n → ∃ (g : Nat) (z : UInt8), A = some ⟨g, 0, none⟩ ∧ w.cell? ⟨g, j, none⟩ = some (.int .u8 (z.toNat : Int))) (hn : n ≤ 100000)
    (hx : Rd w (.slice (some b) 1 c) [y]) (h1 : y.oneCell' = true) (k : ∀ A' n' c' w', w.grownBy w' none → K (.slice A' n' c') w') : NextP Try.prog (builtin .append #[23, 23] 23 cs #[.slice A n n, .slice (some b) 1 c]) K w := by
  cases A with
  | none =>
    have h0 : n = 0 := by
      rcases Nat.eq_zero_or_pos n with h | h
      · exact h
      · obtain ⟨g, z, he, _⟩ := hA 0 h; cases he
    subst h0
    refine ap und23 inf5 (by rfl) (by decide) (Own.nil 5 w) hx (by simpa using h1) (by simp) ?_
    intro v' w' ho hg _
    obtain ⟨A', c', rfl⟩ := ho.slice
    exact k _ _ _ _ hg
  | some a =>
    have each : ∀ j, j < n → ∃ z : UInt8, w.cell? (a.add j) = some (.int .u8 (z.toNat : Int)) := fun j hj => by
      obtain ⟨g, z, he, hc⟩ := hA j hj
      cases he
      exact ⟨z, by rw [add0, Nat.zero_add]; exact hc⟩
    obtain ⟨f, hf⟩ := Deep.choose_lt each
    obtain ⟨i, hi, hzz⟩ := Option.map_eq_some_iff.1 inf5
    simp only [Prod.mk.injEq] at hzz
    obtain ⟨hz0, hz1, hz2⟩ := hzz
    obtain ⟨v', w', hr, ho, hg⟩ := run_append_arg_grows (P := Try.prog) w 23 23 5 i (.int .u8 0) 1 1 und23 hi hz0 hz1 hz2 rfl (by decide) a n n ((List.range n).map fun j => Value.int .u8 ((f j).toNat : Int)) (by simp)
      (fun j u hu => by
        obtain ⟨hj, he⟩ := List.getElem?_eq_some_iff.1 hu
        simp at hj he
        rw [hf j hj, he]) b 1 c [y] (by simp) (fun j u hu => by
        obtain ⟨a', ha, hc⟩ := hx.at 0 (by simp)
        cases ha
        match j, hu with
        | 0, hu => simp at hu; subst hu; exact hc) (by omega) (by simp only [maxLen]; omega) (by omega)
    have hv : ∃ A' n' c', v' = .slice A' n' c' := by
      rcases ho.2 with ⟨rfl, _⟩ | ⟨g, cap, cur, rfl, _⟩
      · exact ⟨_, _, _, rfl⟩
      · exact ⟨_, _, _, rfl⟩
    obtain ⟨A', n', c', rfl⟩ := hv
    refine nextV (v := .slice A' n' c') (w' := w') ?_ (k _ _ _ _ hg)
    simp only [builtin] at hr ⊢
    simp [hr]

theorem FrameKeeps_spec (v : Value) (l : List (List UInt8)) (w : World) (hv : RdSS w v l) :
    CallP Try.prog 10 #[v] (fun r w' => r = .bool true ∧ Below w.heap.size w w') w := by
  obtain ⟨A, c, rfl, hc1, hc2⟩ := hv.slice
  refine ⟨S10.calls _ _ _ ?_⟩
  unfold S10
  refine (awake24_spec w).mono ?_
  rintro _ w1 ⟨rfl, hb1⟩
  (repeat (first | (with_reducible refine nck ?_) | (with_reducible refine cdT ?_) | (with_reducible refine cdF ?_) | (with_reducible refine gdY ?_) | (with_reducible refine gdFT ?_) | (with_reducible refine gdTF ?_) | (with_reducible refine gdU ?_) | (with_reducible refine gaY ?_) | (with_reducible refine gaFT ?_) | (with_reducible refine gaTF ?_) | (with_reducible refine pickT ?_) | (with_reducible refine pickF ?_) | (with_reducible refine bi_lss_t (by omega) ?_) | (with_reducible refine bi_lss_f (by omega) ?_) | (with_reducible refine bi_add64 (by omega) ?_) | (with_reducible refine bi_sub64 (by omega) ?_) | (with_reducible refine bi_eql_t (by omega) ?_) | (with_reducible refine bi_eql_f (by omega) ?_) | (with_reducible refine bi_neq_t (by omega) ?_) | (with_reducible refine bi_neq_f (by omega) ?_) | (with_reducible refine bi_gtr_t (by omega) ?_) | (with_reducible refine bi_gtr_f (by omega) ?_) | (with_reducible refine bi_leq_t (by omega) ?_) | (with_reducible refine bi_leq_f (by omega) ?_) | (with_reducible refine bi_geq_t (by omega) ?_) | (with_reducible refine bi_geq_f (by omega) ?_) | (with_reducible refine bi_xt0 ?_) | (with_reducible refine bi_xt1 ?_) | (with_reducible refine bi_xt2 ?_) | (with_reducible refine bi_xt3 ?_) | (with_reducible refine bi_T ?_) | (with_reducible refine bi_F ?_) | (with_reducible refine bi_not ?_) | (with_reducible refine bi_and ?_) | (with_reducible refine bi_or ?_) | (with_reducible refine bi_xor ?_) | (with_reducible refine bi_shr (by omega) (by decide) ?_) | (with_reducible refine bi_shl (by omega) (by decide) ?_) | (with_reducible refine bi_quo64 (by omega) ?_) | (with_reducible refine bi_rem64 (by omega) ?_) | (with_reducible refine bi_mul64 (by omega) ?_) | (with_reducible refine bi_neg ?_) | (with_reducible refine bi_un_xor32 ?_) | (with_reducible refine bi_add ?_) | (with_reducible refine bi_sub ?_) | (with_reducible refine bi_mul ?_) | (with_reducible refine bi_quo (by decide) ?_) | (with_reducible refine bi_rem (by decide) ?_)))
  refine (Bulk_spec _ l 2000 (by omega) w1 (hv.below hb1)).mono ?_
  rintro _ _ ⟨⟨n, rfl, hbulk⟩, rfl⟩
  (first | refine bi_lss_c (fun h => ?_) (fun h => ?_) | refine bi_eql_c (fun h => ?_) (fun h => ?_) | refine bi_neq_c (fun h => ?_) (fun h => ?_) | refine bi_gtr_c (fun h => ?_) (fun h => ?_) | refine bi_leq_c (fun h => ?_) (fun h => ?_) | refine bi_geq_c (fun h => ?_) (fun h => ?_) | refine bi_seql_c (fun h => ?_) (fun h => ?_) | refine bi_sneq_c (fun h => ?_) (fun h => ?_))
  · (repeat (first | (with_reducible refine nck ?_) | (with_reducible refine cdT ?_) | (with_reducible refine cdF ?_) | (with_reducible refine gdY ?_) | (with_reducible refine gdFT ?_) | (with_reducible refine gdTF ?_) | (with_reducible refine gdU ?_) | (with_reducible refine gaY ?_) | (with_reducible refine gaFT ?_) | (with_reducible refine gaTF ?_) | (with_reducible refine pickT ?_) | (with_reducible refine pickF ?_) | (with_reducible refine bi_lss_t (by omega) ?_) | (with_reducible refine bi_lss_f (by omega) ?_) | (with_reducible refine bi_add64 (by omega) ?_) | (with_reducible refine bi_sub64 (by omega) ?_) | (with_reducible refine bi_eql_t (by omega) ?_) | (with_reducible refine bi_eql_f (by omega) ?_) | (with_reducible refine bi_neq_t (by omega) ?_) | (with_reducible refine bi_neq_f (by omega) ?_) | (with_reducible refine bi_gtr_t (by omega) ?_) | (with_reducible refine bi_gtr_f (by omega) ?_) | (with_reducible refine bi_leq_t (by omega) ?_) | (with_reducible refine bi_leq_f (by omega) ?_) | (with_reducible refine bi_geq_t (by omega) ?_) | (with_reducible refine bi_geq_f (by omega) ?_) | (with_reducible refine bi_xt0 ?_) | (with_reducible refine bi_xt1 ?_) | (with_reducible refine bi_xt2 ?_) | (with_reducible refine bi_xt3 ?_) | (with_reducible refine bi_T ?_) | (with_reducible refine bi_F ?_) | (with_reducible refine bi_not ?_) | (with_reducible refine bi_and ?_) | (with_reducible refine bi_or ?_) | (with_reducible refine bi_xor ?_) | (with_reducible refine bi_shr (by omega) (by decide) ?_) | (with_reducible refine bi_shl (by omega) (by decide) ?_) | (with_reducible refine bi_quo64 (by omega) ?_) | (with_reducible refine bi_rem64 (by omega) ?_) | (with_reducible refine bi_mul64 (by omega) ?_) | (with_reducible refine bi_neg ?_) | (with_reducible refine bi_un_xor32 ?_) | (with_reducible refine bi_add ?_) | (with_reducible refine bi_sub ?_) | (with_reducible refine bi_mul ?_) | (with_reducible refine bi_quo (by decide) ?_) | (with_reducible refine bi_rem (by decide) ?_)))
    exact ⟨rfl, hb1⟩
  have hbk := hbulk (by omega)
  have hp : ∀ p ∈ l, p.length ≤ 2000 := fun p h => by have := Frame.mem_flat l p h; omega
  have hcl := Frame.cat_length l
  clear hbulk
  (repeat (first | (with_reducible refine nck ?_) | (with_reducible refine cdT ?_) | (with_reducible refine cdF ?_) | (with_reducible refine gdY ?_) | (with_reducible refine gdFT ?_) | (with_reducible refine gdTF ?_) | (with_reducible refine gdU ?_) | (with_reducible refine gaY ?_) | (with_reducible refine gaFT ?_) | (with_reducible refine gaTF ?_) | (with_reducible refine pickT ?_) | (with_reducible refine pickF ?_) | (with_reducible refine bi_lss_t (by omega) ?_) | (with_reducible refine bi_lss_f (by omega) ?_) | (with_reducible refine bi_add64 (by omega) ?_) | (with_reducible refine bi_sub64 (by omega) ?_) | (with_reducible refine bi_eql_t (by omega) ?_) | (with_reducible refine bi_eql_f (by omega) ?_) | (with_reducible refine bi_neq_t (by omega) ?_) | (with_reducible refine bi_neq_f (by omega) ?_) | (with_reducible refine bi_gtr_t (by omega) ?_) | (with_reducible refine bi_gtr_f (by omega) ?_) | (with_reducible refine bi_leq_t (by omega) ?_) | (with_reducible refine bi_leq_f (by omega) ?_) | (with_reducible refine bi_geq_t (by omega) ?_) | (with_reducible refine bi_geq_f (by omega) ?_) | (with_reducible refine bi_xt0 ?_) | (with_reducible refine bi_xt1 ?_) | (with_reducible refine bi_xt2 ?_) | (with_reducible refine bi_xt3 ?_) | (with_reducible refine bi_T ?_) | (with_reducible refine bi_F ?_) | (with_reducible refine bi_not ?_) | (with_reducible refine bi_and ?_) | (with_reducible refine bi_or ?_) | (with_reducible refine bi_xor ?_) | (with_reducible refine bi_shr (by omega) (by decide) ?_) | (with_reducible refine bi_shl (by omega) (by decide) ?_) | (with_reducible refine bi_quo64 (by omega) ?_) | (with_reducible refine bi_rem64 (by omega) ?_) | (with_reducible refine bi_mul64 (by omega) ?_) | (with_reducible refine bi_neg ?_) | (with_reducible refine bi_un_xor32 ?_) | (with_reducible refine bi_add ?_) | (with_reducible refine bi_sub ?_) | (with_reducible refine bi_mul ?_) | (with_reducible refine bi_quo (by decide) ?_) | (with_reducible refine bi_rem (by decide) ?_)))
  refine LoopP.inv2 (fun b i w' => ∃ k : Nat, k ≤ l.length ∧ i = .int .i64 k ∧ Own 5 w' b ((Frame.cat (l.take k)).map u8) ∧ Fresh w.heap.size b ∧ Below w.heap.size w w') (fun _ i _ => l.length - (intOf i).toNat)
    ⟨0, by omega, rfl, Own.nil 5 _, Fresh.nil _, hb1⟩ ?_
  rintro b _ w2 ⟨k, hk, rfl, hob, hfb, hb2⟩ J hJ
  have hkc := Frame.cat_le l k
  dsimp only [List.headD_cons, List.tail_cons]
  refine ln und45 ?_
  (first | refine bi_lss_c (fun h => ?_) (fun h => ?_) | refine bi_eql_c (fun h => ?_) (fun h => ?_) | refine bi_neq_c (fun h => ?_) (fun h => ?_) | refine bi_gtr_c (fun h => ?_) (fun h => ?_) | refine bi_leq_c (fun h => ?_) (fun h => ?_) | refine bi_geq_c (fun h => ?_) (fun h => ?_) | refine bi_seql_c (fun h => ?_) (fun h => ?_) | refine bi_sneq_c (fun h => ?_) (fun h => ?_))
  · have hk' : k < l.length := by omega
    have hkc1 := Frame.cat_le l (k + 1)
    rw [Frame.cat_take l k hk', List.length_append] at hkc1
    have hlk := hp _ (List.getElem_mem hk')
    obtain ⟨a, A1, n1, c1, rfl, hp1, hp2⟩ := (hv.below hb2).at k hk'
    obtain ⟨_, _, hee, _⟩ := hp2.slice
    simp only [Value.slice.injEq] at hee
    obtain ⟨_, rfl, _⟩ := hee
    have hplt := World.block_lt_of_cell? _ _ hp1
    (repeat (first | (with_reducible refine nck ?_) | (with_reducible refine cdT ?_) | (with_reducible refine cdF ?_) | (with_reducible refine gdY ?_) | (with_reducible refine gdFT ?_) | (with_reducible refine gdTF ?_) | (with_reducible refine gdU ?_) | (with_reducible refine gaY ?_) | (with_reducible refine gaFT ?_) | (with_reducible refine gaTF ?_) | (with_reducible refine pickT ?_) | (with_reducible refine pickF ?_) | (with_reducible refine bi_lss_t (by omega) ?_) | (with_reducible refine bi_lss_f (by omega) ?_) | (with_reducible refine bi_add64 (by omega) ?_) | (with_reducible refine bi_sub64 (by omega) ?_) | (with_reducible refine bi_eql_t (by omega) ?_) | (with_reducible refine bi_eql_f (by omega) ?_) | (with_reducible refine bi_neq_t (by omega) ?_) | (with_reducible refine bi_neq_f (by omega) ?_) | (with_reducible refine bi_gtr_t (by omega) ?_) | (with_reducible refine bi_gtr_f (by omega) ?_) | (with_reducible refine bi_leq_t (by omega) ?_) | (with_reducible refine bi_leq_f (by omega) ?_) | (with_reducible refine bi_geq_t (by omega) ?_) | (with_reducible refine bi_geq_f (by omega) ?_) | (with_reducible refine bi_xt0 ?_) | (with_reducible refine bi_xt1 ?_) | (with_reducible refine bi_xt2 ?_) | (with_reducible refine bi_xt3 ?_) | (with_reducible refine bi_T ?_) | (with_reducible refine bi_F ?_) | (with_reducible refine bi_not ?_) | (with_reducible refine bi_and ?_) | (with_reducible refine bi_or ?_) | (with_reducible refine bi_xor ?_) | (with_reducible refine bi_shr (by omega) (by decide) ?_) | (with_reducible refine bi_shl (by omega) (by decide) ?_) | (with_reducible refine bi_quo64 (by omega) ?_) | (with_reducible refine bi_rem64 (by omega) ?_) | (with_reducible refine bi_mul64 (by omega) ?_) | (with_reducible refine bi_neg ?_) | (with_reducible refine bi_un_xor32 ?_) | (with_reducible refine bi_add ?_) | (with_reducible refine bi_sub ?_) | (with_reducible refine bi_mul ?_) | (with_reducible refine bi_quo (by decide) ?_) | (with_reducible refine bi_rem (by decide) ?_)))
    refine bs0 und23 sz5 ?_
    have ha2 : Below w2.heap.size w2 (w2.alloc (.cells #[] 5)) := (Below.refl _ _).alloc (Nat.le_refl _) _
    have hp1a : (w2.alloc (.cells #[] 5)).cell? (a.add k) = some (.slice A1 l[k].length c1) := (ha2.cell hplt).trans hp1
    (repeat (first | (with_reducible refine ix1 und45 sz23 hk' ?_) | (with_reducible refine ld one23 hp1a ?_) | (with_reducible refine nck ?_) | (with_reducible refine cdT ?_) | (with_reducible refine cdF ?_) | (with_reducible refine gdY ?_) | (with_reducible refine gdFT ?_) | (with_reducible refine gdTF ?_) | (with_reducible refine gdU ?_) | (with_reducible refine gaY ?_) | (with_reducible refine gaFT ?_) | (with_reducible refine gaTF ?_) | (with_reducible refine pickT ?_) | (with_reducible refine pickF ?_) | (with_reducible refine bi_lss_t (by omega) ?_) | (with_reducible refine bi_lss_f (by omega) ?_) | (with_reducible refine bi_add64 (by omega) ?_) | (with_reducible refine bi_sub64 (by omega) ?_) | (with_reducible refine bi_eql_t (by omega) ?_) | (with_reducible refine bi_eql_f (by omega) ?_) | (with_reducible refine bi_neq_t (by omega) ?_) | (with_reducible refine bi_neq_f (by omega) ?_) | (with_reducible refine bi_gtr_t (by omega) ?_) | (with_reducible refine bi_gtr_f (by omega) ?_) | (with_reducible refine bi_leq_t (by omega) ?_) | (with_reducible refine bi_leq_f (by omega) ?_) | (with_reducible refine bi_geq_t (by omega) ?_) | (with_reducible refine bi_geq_f (by omega) ?_) | (with_reducible refine bi_xt0 ?_) | (with_reducible refine bi_xt1 ?_) | (with_reducible refine bi_xt2 ?_) | (with_reducible refine bi_xt3 ?_) | (with_reducible refine bi_T ?_) | (with_reducible refine bi_F ?_) | (with_reducible refine bi_not ?_) | (with_reducible refine bi_and ?_) | (with_reducible refine bi_or ?_) | (with_reducible refine bi_xor ?_) | (with_reducible refine bi_shr (by omega) (by decide) ?_) | (with_reducible refine bi_shl (by omega) (by decide) ?_) | (with_reducible refine bi_quo64 (by omega) ?_) | (with_reducible refine bi_rem64 (by omega) ?_) | (with_reducible refine bi_mul64 (by omega) ?_) | (with_reducible refine bi_neg ?_) | (with_reducible refine bi_un_xor32 ?_) | (with_reducible refine bi_add ?_) | (with_reducible refine bi_sub ?_) | (with_reducible refine bi_mul ?_) | (with_reducible refine bi_quo (by decide) ?_) | (with_reducible refine bi_rem (by decide) ?_)))
    refine apF w2.heap.size und23 inf5 (by rfl) (by decide) (Own.lit0 w2 5) (Fresh.new (Nat.le_refl _) 0 0) ha2.size (hp2.below ha2) (u8_one _) (by simp; omega) ?_
    intro v3 w3 ho3 hf3 hb3 _
    rw [List.nil_append] at ho3
    have h23 := ha2.trans hb3
    refine lift (v := .slice (some ⟨w3.heap.size, 0, none⟩) 2 2) (w' := w3.alloc (.cells (([1, 2] : List UInt8).map u8).toArray 5)) (by kernel_rfl) ?_
    have ha3 : Below w3.heap.size w3 (w3.alloc (.cells (([1, 2] : List UInt8).map u8).toArray 5)) := (Below.refl _ _).alloc (Nat.le_refl _) _
    have h23a := h23.trans (ha3.mono h23.size)
    refine apF w2.heap.size und23 inf5 (by rfl) (by decide) (ho3.below ha3) hf3 h23a.size (Own.new w3 5 (([1, 2] : List UInt8).map u8) (by simp)).rd (u8_one _) (by simp; omega) ?_
    intro v4 w4 ho4 hf4 hb4 _
    rw [← List.map_append] at ho4
    have h24 := h23a.trans hb4
    obtain ⟨A4, c4, rfl⟩ := ho4.slice
    rw [List.length_map] at ho4 hf4 ⊢
    have hr4 := ho4.rdB
    have hp1b : w4.cell? (a.add k) = some (.slice A1 l[k].length c1) := (h24.cell hplt).trans hp1
    (repeat (first | (with_reducible refine ix1 und45 sz23 hk' ?_) | (with_reducible refine ld one23 hp1b ?_) | (with_reducible refine ln und23 ?_) | (with_reducible refine nck ?_) | (with_reducible refine cdT ?_) | (with_reducible refine cdF ?_) | (with_reducible refine gdY ?_) | (with_reducible refine gdFT ?_) | (with_reducible refine gdTF ?_) | (with_reducible refine gdU ?_) | (with_reducible refine gaY ?_) | (with_reducible refine gaFT ?_) | (with_reducible refine gaTF ?_) | (with_reducible refine pickT ?_) | (with_reducible refine pickF ?_) | (with_reducible refine bi_lss_t (by omega) ?_) | (with_reducible refine bi_lss_f (by omega) ?_) | (with_reducible refine bi_add64 (by omega) ?_) | (with_reducible refine bi_sub64 (by omega) ?_) | (with_reducible refine bi_eql_t (by omega) ?_) | (with_reducible refine bi_eql_f (by omega) ?_) | (with_reducible refine bi_neq_t (by omega) ?_) | (with_reducible refine bi_neq_f (by omega) ?_) | (with_reducible refine bi_gtr_t (by omega) ?_) | (with_reducible refine bi_gtr_f (by omega) ?_) | (with_reducible refine bi_leq_t (by omega) ?_) | (with_reducible refine bi_leq_f (by omega) ?_) | (with_reducible refine bi_geq_t (by omega) ?_) | (with_reducible refine bi_geq_f (by omega) ?_) | (with_reducible refine bi_xt0 ?_) | (with_reducible refine bi_xt1 ?_) | (with_reducible refine bi_xt2 ?_) | (with_reducible refine bi_xt3 ?_) | (with_reducible refine bi_T ?_) | (with_reducible refine bi_F ?_) | (with_reducible refine bi_not ?_) | (with_reducible refine bi_and ?_) | (with_reducible refine bi_or ?_) | (with_reducible refine bi_xor ?_) | (with_reducible refine bi_shr (by omega) (by decide) ?_) | (with_reducible refine bi_shl (by omega) (by decide) ?_) | (with_reducible refine bi_quo64 (by omega) ?_) | (with_reducible refine bi_rem64 (by omega) ?_) | (with_reducible refine bi_mul64 (by omega) ?_) | (with_reducible refine bi_neg ?_) | (with_reducible refine bi_un_xor32 ?_) | (with_reducible refine bi_add ?_) | (with_reducible refine bi_sub ?_) | (with_reducible refine bi_mul ?_) | (with_reducible refine bi_quo (by decide) ?_) | (with_reducible refine bi_rem (by decide) ?_)))
    refine ctB und23 sz5 hr4 .no (.at _ _) (Nat.zero_le _) (by simp) ?_
    intro v5 hr5
    rw [List.drop_zero, List.take_left' rfl] at hr5
    refine (Wrap_spec _ _ _ hr5).mono ?_
    rintro _ w6 ⟨x, rfl, hox, hfx, hb6⟩
    rw [Frame.wrapAns, if_pos (by omega)] at hox ⊢
    have h26 := h24.trans (hb6.mono h24.size)
    (repeat (first | (with_reducible refine nck ?_) | (with_reducible refine cdT ?_) | (with_reducible refine cdF ?_) | (with_reducible refine gdY ?_) | (with_reducible refine gdFT ?_) | (with_reducible refine gdTF ?_) | (with_reducible refine gdU ?_) | (with_reducible refine gaY ?_) | (with_reducible refine gaFT ?_) | (with_reducible refine gaTF ?_) | (with_reducible refine pickT ?_) | (with_reducible refine pickF ?_) | (with_reducible refine bi_lss_t (by omega) ?_) | (with_reducible refine bi_lss_f (by omega) ?_) | (with_reducible refine bi_add64 (by omega) ?_) | (with_reducible refine bi_sub64 (by omega) ?_) | (with_reducible refine bi_eql_t (by omega) ?_) | (with_reducible refine bi_eql_f (by omega) ?_) | (with_reducible refine bi_neq_t (by omega) ?_) | (with_reducible refine bi_neq_f (by omega) ?_) | (with_reducible refine bi_gtr_t (by omega) ?_) | (with_reducible refine bi_gtr_f (by omega) ?_) | (with_reducible refine bi_leq_t (by omega) ?_) | (with_reducible refine bi_leq_f (by omega) ?_) | (with_reducible refine bi_geq_t (by omega) ?_) | (with_reducible refine bi_geq_f (by omega) ?_) | (with_reducible refine bi_xt0 ?_) | (with_reducible refine bi_xt1 ?_) | (with_reducible refine bi_xt2 ?_) | (with_reducible refine bi_xt3 ?_) | (with_reducible refine bi_T ?_) | (with_reducible refine bi_F ?_) | (with_reducible refine bi_not ?_) | (with_reducible refine bi_and ?_) | (with_reducible refine bi_or ?_) | (with_reducible refine bi_xor ?_) | (with_reducible refine bi_shr (by omega) (by decide) ?_) | (with_reducible refine bi_shl (by omega) (by decide) ?_) | (with_reducible refine bi_quo64 (by omega) ?_) | (with_reducible refine bi_rem64 (by omega) ?_) | (with_reducible refine bi_mul64 (by omega) ?_) | (with_reducible refine bi_neg ?_) | (with_reducible refine bi_un_xor32 ?_) | (with_reducible refine bi_add ?_) | (with_reducible refine bi_sub ?_) | (with_reducible refine bi_mul ?_) | (with_reducible refine bi_quo (by decide) ?_) | (with_reducible refine bi_rem (by decide) ?_)))
    have hr46 := hr4.below hb6
    refine draw (Below w6.heap.size w6) (Below.refl _ _).drew ?_
    have hp1c : w6.cell? (a.add k) = some (.slice A1 l[k].length c1) := (h26.cell hplt).trans hp1
    have hplt6 := World.block_lt_of_cell? _ _ hp1c
    refine ycvBS und23 und5 und9 (fun w' h => hr46.below h) ?_
    refine yix1 und45 sz23 k hk' ?_
    refine yl1 one23 (fun w' h => (h.cell hplt6).trans hp1c) ?_
    refine ycvBS und23 und5 und9 (fun w' h => (hp2.below h26).below h) ?_
    refine yofPR (pr_sadd (by show l[k].toArray.size + 2 ≤ _; simp; omega)) ?_
    (repeat (first | (with_reducible refine yi_sneq_f (by simp) ?_) | (with_reducible refine ynck ?_) | (with_reducible refine nck ?_) | (with_reducible refine cdT ?_) | (with_reducible refine cdF ?_) | (with_reducible refine gdY ?_) | (with_reducible refine gdFT ?_) | (with_reducible refine gdTF ?_) | (with_reducible refine gdU ?_) | (with_reducible refine gaY ?_) | (with_reducible refine gaFT ?_) | (with_reducible refine gaTF ?_) | (with_reducible refine pickT ?_) | (with_reducible refine pickF ?_) | (with_reducible refine yi_lss_t (by omega) ?_) | (with_reducible refine yi_lss_f (by omega) ?_) | (with_reducible refine yi_add64 (by omega) ?_) | (with_reducible refine yi_sub64 (by omega) ?_) | (with_reducible refine yi_eql_t (by omega) ?_) | (with_reducible refine yi_eql_f (by omega) ?_) | (with_reducible refine yi_neq_t (by omega) ?_) | (with_reducible refine yi_neq_f (by omega) ?_) | (with_reducible refine yi_gtr_t (by omega) ?_) | (with_reducible refine yi_gtr_f (by omega) ?_) | (with_reducible refine yi_leq_t (by omega) ?_) | (with_reducible refine yi_leq_f (by omega) ?_) | (with_reducible refine yi_geq_t (by omega) ?_) | (with_reducible refine yi_geq_f (by omega) ?_) | (with_reducible refine yi_xt0 ?_) | (with_reducible refine yi_xt1 ?_) | (with_reducible refine yi_xt2 ?_) | (with_reducible refine yi_xt3 ?_) | (with_reducible refine yi_T ?_) | (with_reducible refine yi_F ?_) | (with_reducible refine yi_not ?_) | (with_reducible refine yi_and ?_) | (with_reducible refine yi_or ?_) | (with_reducible refine yi_xor ?_) | (with_reducible refine yi_shr (by omega) (by decide) ?_) | (with_reducible refine yi_shl (by omega) (by decide) ?_) | (with_reducible refine yi_quo64 (by omega) ?_) | (with_reducible refine yi_rem64 (by omega) ?_) | (with_reducible refine yi_mul64 (by omega) ?_) | (with_reducible refine yi_neg ?_) | (with_reducible refine yi_un_xor32 ?_) | (with_reducible refine yi_add ?_) | (with_reducible refine yi_sub ?_) | (with_reducible refine yi_mul ?_) | (with_reducible refine yi_quo (by decide) ?_) | (with_reducible refine yi_rem (by decide) ?_)))
    have h27 : Below w2.heap.size w2 w6.drew := h26.drew
    have ho7 := ho4.below hb6 |>.below (Below.refl _ w6).drew
    have hox7 := hox.below (Below.refl _ w6).drew
    have hxd : x.ownBlock ≠ (Value.slice A4 (l[k] ++ [1, 2]).length c4).ownBlock := fun he => by
      obtain ⟨j, hj⟩ : ∃ j, (Value.slice A4 (l[k] ++ [1, 2]).length c4).ownBlock = some j := by
        obtain ⟨g, rfl, _⟩ := ho4.at 0 (by simp)
        exact ⟨g, rfl⟩
      have h1 := ho4.lt hj
      have h2 := hfx j (he.trans hj)
      omega
    have hl2 : (l[k] ++ [1, 2]).length = l[k].length + 2 := by simp
    generalize w6.drew = w7 at *
    refine LoopP.inv1 (fun i w' => ∃ (j : Nat) (cs : List UInt8), j ≤ (l[k] ++ [1, 2]).length ∧ i = .int .i64 j ∧ cs.length = (l[k] ++ [1, 2]).length ∧ Own 5 w' (.slice A4 (l[k] ++ [1, 2]).length c4) (cs.map u8) ∧ Own 5 w' x ((Frame.wrap l[k]).map u8) ∧ Below w2.heap.size w2 w') (fun i _ => (l[k] ++ [1, 2]).length - (intOf i).toNat)
      ⟨0, _, by omega, rfl, rfl, ho7, hox7, h27⟩ ?_
    rintro _ w8 ⟨j, cs, hj, rfl, hcs, ho8, hox8, h28⟩ J' hJ'
    dsimp only [List.headD_cons, List.tail_cons]
    refine ln und23 ?_
    (first | refine bi_lss_c (fun h => ?_) (fun h => ?_) | refine bi_eql_c (fun h => ?_) (fun h => ?_) | refine bi_neq_c (fun h => ?_) (fun h => ?_) | refine bi_gtr_c (fun h => ?_) (fun h => ?_) | refine bi_leq_c (fun h => ?_) (fun h => ?_) | refine bi_geq_c (fun h => ?_) (fun h => ?_) | refine bi_seql_c (fun h => ?_) (fun h => ?_) | refine bi_sneq_c (fun h => ?_) (fun h => ?_))
    · have hj' : j < (l[k] ++ [1, 2]).length := by omega
      obtain ⟨g, rfl, hcg, hfg⟩ := ho8.at j (by rw [List.length_map]; omega)
      (repeat (first | (with_reducible refine ix1 und23 sz5 hj' ?_) | (with_reducible refine nck ?_) | (with_reducible refine cdT ?_) | (with_reducible refine cdF ?_) | (with_reducible refine gdY ?_) | (with_reducible refine gdFT ?_) | (with_reducible refine gdTF ?_) | (with_reducible refine gdU ?_) | (with_reducible refine gaY ?_) | (with_reducible refine gaFT ?_) | (with_reducible refine gaTF ?_) | (with_reducible refine pickT ?_) | (with_reducible refine pickF ?_) | (with_reducible refine bi_lss_t (by omega) ?_) | (with_reducible refine bi_lss_f (by omega) ?_) | (with_reducible refine bi_add64 (by omega) ?_) | (with_reducible refine bi_sub64 (by omega) ?_) | (with_reducible refine bi_eql_t (by omega) ?_) | (with_reducible refine bi_eql_f (by omega) ?_) | (with_reducible refine bi_neq_t (by omega) ?_) | (with_reducible refine bi_neq_f (by omega) ?_) | (with_reducible refine bi_gtr_t (by omega) ?_) | (with_reducible refine bi_gtr_f (by omega) ?_) | (with_reducible refine bi_leq_t (by omega) ?_) | (with_reducible refine bi_leq_f (by omega) ?_) | (with_reducible refine bi_geq_t (by omega) ?_) | (with_reducible refine bi_geq_f (by omega) ?_) | (with_reducible refine bi_xt0 ?_) | (with_reducible refine bi_xt1 ?_) | (with_reducible refine bi_xt2 ?_) | (with_reducible refine bi_xt3 ?_) | (with_reducible refine bi_T ?_) | (with_reducible refine bi_F ?_) | (with_reducible refine bi_not ?_) | (with_reducible refine bi_and ?_) | (with_reducible refine bi_or ?_) | (with_reducible refine bi_xor ?_) | (with_reducible refine bi_shr (by omega) (by decide) ?_) | (with_reducible refine bi_shl (by omega) (by decide) ?_) | (with_reducible refine bi_quo64 (by omega) ?_) | (with_reducible refine bi_rem64 (by omega) ?_) | (with_reducible refine bi_mul64 (by omega) ?_) | (with_reducible refine bi_neg ?_) | (with_reducible refine bi_un_xor32 ?_) | (with_reducible refine bi_add ?_) | (with_reducible refine bi_sub ?_) | (with_reducible refine bi_mul ?_) | (with_reducible refine bi_quo (by decide) ?_) | (with_reducible refine bi_rem (by decide) ?_)))
      refine st sz5 rfl (by rw [hcg]; rfl) hfg ?_
      have ho9 := ho8.set j (by rw [List.length_map]; omega) (.int .u8 ((9 : UInt8).toNat : Int))
      rw [map_set9] at ho9
      have hox9 := hox8.far (p := (⟨g, 0, none⟩ : Addr).add j) (by rw [add0]; exact hxd) (.int .u8 ((9 : UInt8).toNat : Int))
      have h29 := h28.setCell (p := (⟨g, 0, none⟩ : Addr).add j) (by rw [add0]; exact hf4 g rfl) (.int .u8 ((9 : UInt8).toNat : Int))
      (repeat (first | (with_reducible refine nck ?_) | (with_reducible refine cdT ?_) | (with_reducible refine cdF ?_) | (with_reducible refine gdY ?_) | (with_reducible refine gdFT ?_) | (with_reducible refine gdTF ?_) | (with_reducible refine gdU ?_) | (with_reducible refine gaY ?_) | (with_reducible refine gaFT ?_) | (with_reducible refine gaTF ?_) | (with_reducible refine pickT ?_) | (with_reducible refine pickF ?_) | (with_reducible refine bi_lss_t (by omega) ?_) | (with_reducible refine bi_lss_f (by omega) ?_) | (with_reducible refine bi_add64 (by omega) ?_) | (with_reducible refine bi_sub64 (by omega) ?_) | (with_reducible refine bi_eql_t (by omega) ?_) | (with_reducible refine bi_eql_f (by omega) ?_) | (with_reducible refine bi_neq_t (by omega) ?_) | (with_reducible refine bi_neq_f (by omega) ?_) | (with_reducible refine bi_gtr_t (by omega) ?_) | (with_reducible refine bi_gtr_f (by omega) ?_) | (with_reducible refine bi_leq_t (by omega) ?_) | (with_reducible refine bi_leq_f (by omega) ?_) | (with_reducible refine bi_geq_t (by omega) ?_) | (with_reducible refine bi_geq_f (by omega) ?_) | (with_reducible refine bi_xt0 ?_) | (with_reducible refine bi_xt1 ?_) | (with_reducible refine bi_xt2 ?_) | (with_reducible refine bi_xt3 ?_) | (with_reducible refine bi_T ?_) | (with_reducible refine bi_F ?_) | (with_reducible refine bi_not ?_) | (with_reducible refine bi_and ?_) | (with_reducible refine bi_or ?_) | (with_reducible refine bi_xor ?_) | (with_reducible refine bi_shr (by omega) (by decide) ?_) | (with_reducible refine bi_shl (by omega) (by decide) ?_) | (with_reducible refine bi_quo64 (by omega) ?_) | (with_reducible refine bi_rem64 (by omega) ?_) | (with_reducible refine bi_mul64 (by omega) ?_) | (with_reducible refine bi_neg ?_) | (with_reducible refine bi_un_xor32 ?_) | (with_reducible refine bi_add ?_) | (with_reducible refine bi_sub ?_) | (with_reducible refine bi_mul ?_) | (with_reducible refine bi_quo (by decide) ?_) | (with_reducible refine bi_rem (by decide) ?_)))
      exact hJ' _ _ ⟨j + 1, _, by omega, by simp, by rw [List.length_set]; exact hcs, ho9, hox9, h29⟩ (by simp [intOf]; omega)
    · (repeat (first | (with_reducible refine nck ?_) | (with_reducible refine cdT ?_) | (with_reducible refine cdF ?_) | (with_reducible refine gdY ?_) | (with_reducible refine gdFT ?_) | (with_reducible refine gdTF ?_) | (with_reducible refine gdU ?_) | (with_reducible refine gaY ?_) | (with_reducible refine gaFT ?_) | (with_reducible refine gaTF ?_) | (with_reducible refine pickT ?_) | (with_reducible refine pickF ?_) | (with_reducible refine bi_lss_t (by omega) ?_) | (with_reducible refine bi_lss_f (by omega) ?_) | (with_reducible refine bi_add64 (by omega) ?_) | (with_reducible refine bi_sub64 (by omega) ?_) | (with_reducible refine bi_eql_t (by omega) ?_) | (with_reducible refine bi_eql_f (by omega) ?_) | (with_reducible refine bi_neq_t (by omega) ?_) | (with_reducible refine bi_neq_f (by omega) ?_) | (with_reducible refine bi_gtr_t (by omega) ?_) | (with_reducible refine bi_gtr_f (by omega) ?_) | (with_reducible refine bi_leq_t (by omega) ?_) | (with_reducible refine bi_leq_f (by omega) ?_) | (with_reducible refine bi_geq_t (by omega) ?_) | (with_reducible refine bi_geq_f (by omega) ?_) | (with_reducible refine bi_xt0 ?_) | (with_reducible refine bi_xt1 ?_) | (with_reducible refine bi_xt2 ?_) | (with_reducible refine bi_xt3 ?_) | (with_reducible refine bi_T ?_) | (with_reducible refine bi_F ?_) | (with_reducible refine bi_not ?_) | (with_reducible refine bi_and ?_) | (with_reducible refine bi_or ?_) | (with_reducible refine bi_xor ?_) | (with_reducible refine bi_shr (by omega) (by decide) ?_) | (with_reducible refine bi_shl (by omega) (by decide) ?_) | (with_reducible refine bi_quo64 (by omega) ?_) | (with_reducible refine bi_rem64 (by omega) ?_) | (with_reducible refine bi_mul64 (by omega) ?_) | (with_reducible refine bi_neg ?_) | (with_reducible refine bi_un_xor32 ?_) | (with_reducible refine bi_add ?_) | (with_reducible refine bi_sub ?_) | (with_reducible refine bi_mul ?_) | (with_reducible refine bi_quo (by decide) ?_) | (with_reducible refine bi_rem (by decide) ?_)))
      have hb8 := below_then hb2 h28
      refine apF w.heap.size und23 inf5 (by rfl) (by decide) (hob.below h28) hfb hb8.size hox8.rd (u8_one _) (by simp only [List.length_map]; omega) ?_
      intro b9 w9 hob9 hfb9 hb9 _
      rw [← List.map_append, ← Frame.cat_take l k hk'] at hob9
      (repeat (first | (with_reducible refine nck ?_) | (with_reducible refine cdT ?_) | (with_reducible refine cdF ?_) | (with_reducible refine gdY ?_) | (with_reducible refine gdFT ?_) | (with_reducible refine gdTF ?_) | (with_reducible refine gdU ?_) | (with_reducible refine gaY ?_) | (with_reducible refine gaFT ?_) | (with_reducible refine gaTF ?_) | (with_reducible refine pickT ?_) | (with_reducible refine pickF ?_) | (with_reducible refine bi_lss_t (by omega) ?_) | (with_reducible refine bi_lss_f (by omega) ?_) | (with_reducible refine bi_add64 (by omega) ?_) | (with_reducible refine bi_sub64 (by omega) ?_) | (with_reducible refine bi_eql_t (by omega) ?_) | (with_reducible refine bi_eql_f (by omega) ?_) | (with_reducible refine bi_neq_t (by omega) ?_) | (with_reducible refine bi_neq_f (by omega) ?_) | (with_reducible refine bi_gtr_t (by omega) ?_) | (with_reducible refine bi_gtr_f (by omega) ?_) | (with_reducible refine bi_leq_t (by omega) ?_) | (with_reducible refine bi_leq_f (by omega) ?_) | (with_reducible refine bi_geq_t (by omega) ?_) | (with_reducible refine bi_geq_f (by omega) ?_) | (with_reducible refine bi_xt0 ?_) | (with_reducible refine bi_xt1 ?_) | (with_reducible refine bi_xt2 ?_) | (with_reducible refine bi_xt3 ?_) | (with_reducible refine bi_T ?_) | (with_reducible refine bi_F ?_) | (with_reducible refine bi_not ?_) | (with_reducible refine bi_and ?_) | (with_reducible refine bi_or ?_) | (with_reducible refine bi_xor ?_) | (with_reducible refine bi_shr (by omega) (by decide) ?_) | (with_reducible refine bi_shl (by omega) (by decide) ?_) | (with_reducible refine bi_quo64 (by omega) ?_) | (with_reducible refine bi_rem64 (by omega) ?_) | (with_reducible refine bi_mul64 (by omega) ?_) | (with_reducible refine bi_neg ?_) | (with_reducible refine bi_un_xor32 ?_) | (with_reducible refine bi_add ?_) | (with_reducible refine bi_sub ?_) | (with_reducible refine bi_mul ?_) | (with_reducible refine bi_quo (by decide) ?_) | (with_reducible refine bi_rem (by decide) ?_)))
      exact hJ _ _ _ ⟨k + 1, by omega, by simp, hob9, hfb9, hb8.trans hb9⟩ (by simp [intOf]; omega)
  have hkl : k = l.length := by omega
  subst hkl
  rw [List.take_length] at hob
  clear hJ
  (repeat (first | (with_reducible refine nck ?_) | (with_reducible refine cdT ?_) | (with_reducible refine cdF ?_) | (with_reducible refine gdY ?_) | (with_reducible refine gdFT ?_) | (with_reducible refine gdTF ?_) | (with_reducible refine gdU ?_) | (with_reducible refine gaY ?_) | (with_reducible refine gaFT ?_) | (with_reducible refine gaTF ?_) | (with_reducible refine pickT ?_) | (with_reducible refine pickF ?_) | (with_reducible refine bi_lss_t (by omega) ?_) | (with_reducible refine bi_lss_f (by omega) ?_) | (with_reducible refine bi_add64 (by omega) ?_) | (with_reducible refine bi_sub64 (by omega) ?_) | (with_reducible refine bi_eql_t (by omega) ?_) | (with_reducible refine bi_eql_f (by omega) ?_) | (with_reducible refine bi_neq_t (by omega) ?_) | (with_reducible refine bi_neq_f (by omega) ?_) | (with_reducible refine bi_gtr_t (by omega) ?_) | (with_reducible refine bi_gtr_f (by omega) ?_) | (with_reducible refine bi_leq_t (by omega) ?_) | (with_reducible refine bi_leq_f (by omega) ?_) | (with_reducible refine bi_geq_t (by omega) ?_) | (with_reducible refine bi_geq_f (by omega) ?_) | (with_reducible refine bi_xt0 ?_) | (with_reducible refine bi_xt1 ?_) | (with_reducible refine bi_xt2 ?_) | (with_reducible refine bi_xt3 ?_) | (with_reducible refine bi_T ?_) | (with_reducible refine bi_F ?_) | (with_reducible refine bi_not ?_) | (with_reducible refine bi_and ?_) | (with_reducible refine bi_or ?_) | (with_reducible refine bi_xor ?_) | (with_reducible refine bi_shr (by omega) (by decide) ?_) | (with_reducible refine bi_shl (by omega) (by decide) ?_) | (with_reducible refine bi_quo64 (by omega) ?_) | (with_reducible refine bi_rem64 (by omega) ?_) | (with_reducible refine bi_mul64 (by omega) ?_) | (with_reducible refine bi_neg ?_) | (with_reducible refine bi_un_xor32 ?_) | (with_reducible refine bi_add ?_) | (with_reducible refine bi_sub ?_) | (with_reducible refine bi_mul ?_) | (with_reducible refine bi_quo (by decide) ?_) | (with_reducible refine bi_rem (by decide) ?_)))
  have hrb := hob.rdB
  refine cvBS und23 und5 und9 hrb ?_
  have hs1 : Frame.scan (Frame.cat l) = (l, (Frame.cat l).length) := by
    have := Frame.scan_cat l [] (fun p h => by have := hp p h; omega) (Frame.view_short _ (by simp))
    rwa [List.append_nil] at this
  refine (Scan_elem _ _ _ hrb (by omega)).mono ?_
  rintro _ w3 ⟨l3, rfl, hr3, hf3, hb3⟩
  rw [hs1] at hr3 ⊢
  have hb3' := below_then hb2 hb3
  (repeat (first | (with_reducible refine nck ?_) | (with_reducible refine cdT ?_) | (with_reducible refine cdF ?_) | (with_reducible refine gdY ?_) | (with_reducible refine gdFT ?_) | (with_reducible refine gdTF ?_) | (with_reducible refine gdU ?_) | (with_reducible refine gaY ?_) | (with_reducible refine gaFT ?_) | (with_reducible refine gaTF ?_) | (with_reducible refine pickT ?_) | (with_reducible refine pickF ?_) | (with_reducible refine bi_lss_t (by omega) ?_) | (with_reducible refine bi_lss_f (by omega) ?_) | (with_reducible refine bi_add64 (by omega) ?_) | (with_reducible refine bi_sub64 (by omega) ?_) | (with_reducible refine bi_eql_t (by omega) ?_) | (with_reducible refine bi_eql_f (by omega) ?_) | (with_reducible refine bi_neq_t (by omega) ?_) | (with_reducible refine bi_neq_f (by omega) ?_) | (with_reducible refine bi_gtr_t (by omega) ?_) | (with_reducible refine bi_gtr_f (by omega) ?_) | (with_reducible refine bi_leq_t (by omega) ?_) | (with_reducible refine bi_leq_f (by omega) ?_) | (with_reducible refine bi_geq_t (by omega) ?_) | (with_reducible refine bi_geq_f (by omega) ?_) | (with_reducible refine bi_xt0 ?_) | (with_reducible refine bi_xt1 ?_) | (with_reducible refine bi_xt2 ?_) | (with_reducible refine bi_xt3 ?_) | (with_reducible refine bi_T ?_) | (with_reducible refine bi_F ?_) | (with_reducible refine bi_not ?_) | (with_reducible refine bi_and ?_) | (with_reducible refine bi_or ?_) | (with_reducible refine bi_xor ?_) | (with_reducible refine bi_shr (by omega) (by decide) ?_) | (with_reducible refine bi_shl (by omega) (by decide) ?_) | (with_reducible refine bi_quo64 (by omega) ?_) | (with_reducible refine bi_rem64 (by omega) ?_) | (with_reducible refine bi_mul64 (by omega) ?_) | (with_reducible refine bi_neg ?_) | (with_reducible refine bi_un_xor32 ?_) | (with_reducible refine bi_add ?_) | (with_reducible refine bi_sub ?_) | (with_reducible refine bi_mul ?_) | (with_reducible refine bi_quo (by decide) ?_) | (with_reducible refine bi_rem (by decide) ?_)))
  refine (Scan_elem _ _ _ (hrb.below hb3) (by omega)).mono ?_
  rintro _ w4 ⟨l4, rfl, hr4, hf4, hb4⟩
  rw [hs1] at hr4 ⊢
  have hb4' := below_then hb3' hb4
  (repeat (first | (with_reducible refine nck ?_) | (with_reducible refine cdT ?_) | (with_reducible refine cdF ?_) | (with_reducible refine gdY ?_) | (with_reducible refine gdFT ?_) | (with_reducible refine gdTF ?_) | (with_reducible refine gdU ?_) | (with_reducible refine gaY ?_) | (with_reducible refine gaFT ?_) | (with_reducible refine gaTF ?_) | (with_reducible refine pickT ?_) | (with_reducible refine pickF ?_) | (with_reducible refine bi_lss_t (by omega) ?_) | (with_reducible refine bi_lss_f (by omega) ?_) | (with_reducible refine bi_add64 (by omega) ?_) | (with_reducible refine bi_sub64 (by omega) ?_) | (with_reducible refine bi_eql_t (by omega) ?_) | (with_reducible refine bi_eql_f (by omega) ?_) | (with_reducible refine bi_neq_t (by omega) ?_) | (with_reducible refine bi_neq_f (by omega) ?_) | (with_reducible refine bi_gtr_t (by omega) ?_) | (with_reducible refine bi_gtr_f (by omega) ?_) | (with_reducible refine bi_leq_t (by omega) ?_) | (with_reducible refine bi_leq_f (by omega) ?_) | (with_reducible refine bi_geq_t (by omega) ?_) | (with_reducible refine bi_geq_f (by omega) ?_) | (with_reducible refine bi_xt0 ?_) | (with_reducible refine bi_xt1 ?_) | (with_reducible refine bi_xt2 ?_) | (with_reducible refine bi_xt3 ?_) | (with_reducible refine bi_T ?_) | (with_reducible refine bi_F ?_) | (with_reducible refine bi_not ?_) | (with_reducible refine bi_and ?_) | (with_reducible refine bi_or ?_) | (with_reducible refine bi_xor ?_) | (with_reducible refine bi_shr (by omega) (by decide) ?_) | (with_reducible refine bi_shl (by omega) (by decide) ?_) | (with_reducible refine bi_quo64 (by omega) ?_) | (with_reducible refine bi_rem64 (by omega) ?_) | (with_reducible refine bi_mul64 (by omega) ?_) | (with_reducible refine bi_neg ?_) | (with_reducible refine bi_un_xor32 ?_) | (with_reducible refine bi_add ?_) | (with_reducible refine bi_sub ?_) | (with_reducible refine bi_mul ?_) | (with_reducible refine bi_quo (by decide) ?_) | (with_reducible refine bi_rem (by decide) ?_)))
  have hr3' := hr3.below hb4
  have hB1 : w.heap.size ≤ w2.heap.size := hb2.size
  have hmw : Mid w2.heap.size w3.heap.size w4 w4 := Mid.refl _ _ _
  have hgl : ∀ k, l3.ownBlock = some k → w2.heap.size ≤ k ∧ k < w3.heap.size := fun k hk => ⟨hf3 k hk, hr3.lt hk⟩
  have hinv0 : LoopInv w2.heap.size w3.heap.size l3 (l.map List.length) w4 0 w4 := by
    refine ⟨hmw, ?_⟩
    obtain ⟨xs, h1, h2, h3, h4⟩ := hr3
    obtain ⟨ys, k1, k2, k3, k4⟩ := hr3'
    refine ⟨xs, h1.below hb4, by simpa using h2, h3, fun i g1 g2 _ => ?_⟩
    have g2' : i < l.length := by simpa using g2
    obtain ⟨he, hne⟩ := h4 i g1 g2'
    obtain ⟨hrr, A', hA, hz⟩ := he
    rw [List.getElem_map]
    refine ⟨A', hA, fun j hj => ?_⟩
    obtain ⟨g, rfl, hBg, hfz⟩ := hz j hj
    rw [hA] at hrr hne
    obtain ⟨a', ha', hcell⟩ := hrr.at j hj
    cases ha'
    rw [add0, Nat.zero_add] at hcell
    have hlt := World.block_lt_of_cell? _ _ hcell
    refine ⟨g, rfl, hBg, hlt, ?_, ⟨l[i][j], (hb4.cell hlt).trans hcell⟩, (hb4.frozen (p := ⟨g, j, none⟩) hlt).trans hfz⟩
    rcases hne with h | h
    · rw [h] at hj; simp at hj
    · exact h
  have hbits : ∀ z : UInt8, Go.bits .xor .u8 (z.toNat : Int) 255 = ((z ^^^ 255).toNat : Int) := fun z => xor_u8' z 255
  have hl3 : ∃ A c, l3 = .slice A l.length c := by
    obtain ⟨xs, h1, h2, _⟩ := hr3
    obtain ⟨A, c, rfl⟩ := h1.slice
    exact ⟨A, c, by rw [h2]⟩
  obtain ⟨Al, cl, rfl⟩ := hl3
  refine LoopP.inv1 (fun i w' => ∃ k : Nat, k ≤ l.length ∧ i = .int .i64 k ∧ LoopInv w2.heap.size w3.heap.size (.slice Al l.length cl) (l.map List.length) w4 k w') (fun i _ => l.length - (intOf i).toNat) ⟨0, by omega, rfl, hinv0⟩ ?_
  clear hinv0
  rintro _ w5 ⟨k, hk, rfl, hinv⟩ J hJ
  dsimp only [List.headD_cons, List.tail_cons]
  refine ln und45 ?_
  (first | refine bi_lss_c (fun h => ?_) (fun h => ?_) | refine bi_eql_c (fun h => ?_) (fun h => ?_) | refine bi_neq_c (fun h => ?_) (fun h => ?_) | refine bi_gtr_c (fun h => ?_) (fun h => ?_) | refine bi_leq_c (fun h => ?_) (fun h => ?_) | refine bi_geq_c (fun h => ?_) (fun h => ?_) | refine bi_seql_c (fun h => ?_) (fun h => ?_) | refine bi_sneq_c (fun h => ?_) (fun h => ?_))
  · have hk' : k < l.length := by omega
    have hlk := hp _ (List.getElem_mem hk')
    (repeat (first | (with_reducible refine nck ?_) | (with_reducible refine cdT ?_) | (with_reducible refine cdF ?_) | (with_reducible refine gdY ?_) | (with_reducible refine gdFT ?_) | (with_reducible refine gdTF ?_) | (with_reducible refine gdU ?_) | (with_reducible refine gaY ?_) | (with_reducible refine gaFT ?_) | (with_reducible refine gaTF ?_) | (with_reducible refine pickT ?_) | (with_reducible refine pickF ?_) | (with_reducible refine bi_lss_t (by omega) ?_) | (with_reducible refine bi_lss_f (by omega) ?_) | (with_reducible refine bi_add64 (by omega) ?_) | (with_reducible refine bi_sub64 (by omega) ?_) | (with_reducible refine bi_eql_t (by omega) ?_) | (with_reducible refine bi_eql_f (by omega) ?_) | (with_reducible refine bi_neq_t (by omega) ?_) | (with_reducible refine bi_neq_f (by omega) ?_) | (with_reducible refine bi_gtr_t (by omega) ?_) | (with_reducible refine bi_gtr_f (by omega) ?_) | (with_reducible refine bi_leq_t (by omega) ?_) | (with_reducible refine bi_leq_f (by omega) ?_) | (with_reducible refine bi_geq_t (by omega) ?_) | (with_reducible refine bi_geq_f (by omega) ?_) | (with_reducible refine bi_xt0 ?_) | (with_reducible refine bi_xt1 ?_) | (with_reducible refine bi_xt2 ?_) | (with_reducible refine bi_xt3 ?_) | (with_reducible refine bi_T ?_) | (with_reducible refine bi_F ?_) | (with_reducible refine bi_not ?_) | (with_reducible refine bi_and ?_) | (with_reducible refine bi_or ?_) | (with_reducible refine bi_xor ?_) | (with_reducible refine bi_shr (by omega) (by decide) ?_) | (with_reducible refine bi_shl (by omega) (by decide) ?_) | (with_reducible refine bi_quo64 (by omega) ?_) | (with_reducible refine bi_rem64 (by omega) ?_) | (with_reducible refine bi_mul64 (by omega) ?_) | (with_reducible refine bi_neg ?_) | (with_reducible refine bi_un_xor32 ?_) | (with_reducible refine bi_add ?_) | (with_reducible refine bi_sub ?_) | (with_reducible refine bi_mul ?_) | (with_reducible refine bi_quo (by decide) ?_) | (with_reducible refine bi_rem (by decide) ?_)))
    refine LoopP.inv1 (fun i w' => ∃ j : Nat, j ≤ l[k].length ∧ i = .int .i64 j ∧ LoopInv w2.heap.size w3.heap.size (.slice Al l.length cl) (l.map List.length) w4 k w') (fun i _ => l[k].length - (intOf i).toNat) ⟨0, by omega, rfl, hinv⟩ ?_
    clear hinv
    rintro _ w6 ⟨j, hj, rfl, hmid, xs, hox, hxl, hx1, hce⟩ J' hJ'
    dsimp only [List.headD_cons, List.tail_cons]
    rw [List.length_map] at hxl
    have hkx : k < xs.length := by omega
    obtain ⟨gl, rfl, hcl, hfl⟩ := hox.at k hkx
    obtain ⟨Ak, hAk, hcells⟩ := hce k hkx (by simpa using hk') (Nat.le_refl _)
    rw [List.getElem_map] at hAk hcells
    rw [hAk] at hcl
    (repeat (first | (with_reducible refine ix1 und45 sz23 hk' ?_) | (with_reducible refine ld one23 hcl ?_) | (with_reducible refine ln und23 ?_) | (with_reducible refine nck ?_) | (with_reducible refine cdT ?_) | (with_reducible refine cdF ?_) | (with_reducible refine gdY ?_) | (with_reducible refine gdFT ?_) | (with_reducible refine gdTF ?_) | (with_reducible refine gdU ?_) | (with_reducible refine gaY ?_) | (with_reducible refine gaFT ?_) | (with_reducible refine gaTF ?_) | (with_reducible refine pickT ?_) | (with_reducible refine pickF ?_) | (with_reducible refine bi_lss_t (by omega) ?_) | (with_reducible refine bi_lss_f (by omega) ?_) | (with_reducible refine bi_add64 (by omega) ?_) | (with_reducible refine bi_sub64 (by omega) ?_) | (with_reducible refine bi_eql_t (by omega) ?_) | (with_reducible refine bi_eql_f (by omega) ?_) | (with_reducible refine bi_neq_t (by omega) ?_) | (with_reducible refine bi_neq_f (by omega) ?_) | (with_reducible refine bi_gtr_t (by omega) ?_) | (with_reducible refine bi_gtr_f (by omega) ?_) | (with_reducible refine bi_leq_t (by omega) ?_) | (with_reducible refine bi_leq_f (by omega) ?_) | (with_reducible refine bi_geq_t (by omega) ?_) | (with_reducible refine bi_geq_f (by omega) ?_) | (with_reducible refine bi_xt0 ?_) | (with_reducible refine bi_xt1 ?_) | (with_reducible refine bi_xt2 ?_) | (with_reducible refine bi_xt3 ?_) | (with_reducible refine bi_T ?_) | (with_reducible refine bi_F ?_) | (with_reducible refine bi_not ?_) | (with_reducible refine bi_and ?_) | (with_reducible refine bi_or ?_) | (with_reducible refine bi_xor ?_) | (with_reducible refine bi_shr (by omega) (by decide) ?_) | (with_reducible refine bi_shl (by omega) (by decide) ?_) | (with_reducible refine bi_quo64 (by omega) ?_) | (with_reducible refine bi_rem64 (by omega) ?_) | (with_reducible refine bi_mul64 (by omega) ?_) | (with_reducible refine bi_neg ?_) | (with_reducible refine bi_un_xor32 ?_) | (with_reducible refine bi_add ?_) | (with_reducible refine bi_sub ?_) | (with_reducible refine bi_mul ?_) | (with_reducible refine bi_quo (by decide) ?_) | (with_reducible refine bi_rem (by decide) ?_)))
    (first | refine bi_lss_c (fun h => ?_) (fun h => ?_) | refine bi_eql_c (fun h => ?_) (fun h => ?_) | refine bi_neq_c (fun h => ?_) (fun h => ?_) | refine bi_gtr_c (fun h => ?_) (fun h => ?_) | refine bi_leq_c (fun h => ?_) (fun h => ?_) | refine bi_geq_c (fun h => ?_) (fun h => ?_) | refine bi_seql_c (fun h => ?_) (fun h => ?_) | refine bi_sneq_c (fun h => ?_) (fun h => ?_))
    · have hj' : j < l[k].length := by omega
      obtain ⟨g, rfl, hg1, hg2, hg3, ⟨z, hz⟩, hgf⟩ := hcells j hj'
      have hltl := World.block_lt_of_cell? _ _ hcl
      have hltg := World.block_lt_of_cell? _ _ hz
      have hz' : w6.cell? ((⟨g, 0, none⟩ : Addr).add j) = some (.int .u8 (z.toNat : Int)) := by rw [add0, Nat.zero_add]; exact hz
      have hgf' : w6.frozen? ((⟨g, 0, none⟩ : Addr).add j) = false := by rw [add0, Nat.zero_add]; exact hgf
      (repeat (first | (with_reducible refine nck ?_) | (with_reducible refine cdT ?_) | (with_reducible refine cdF ?_) | (with_reducible refine gdY ?_) | (with_reducible refine gdFT ?_) | (with_reducible refine gdTF ?_) | (with_reducible refine gdU ?_) | (with_reducible refine gaY ?_) | (with_reducible refine gaFT ?_) | (with_reducible refine gaTF ?_) | (with_reducible refine pickT ?_) | (with_reducible refine pickF ?_) | (with_reducible refine bi_lss_t (by omega) ?_) | (with_reducible refine bi_lss_f (by omega) ?_) | (with_reducible refine bi_add64 (by omega) ?_) | (with_reducible refine bi_sub64 (by omega) ?_) | (with_reducible refine bi_eql_t (by omega) ?_) | (with_reducible refine bi_eql_f (by omega) ?_) | (with_reducible refine bi_neq_t (by omega) ?_) | (with_reducible refine bi_neq_f (by omega) ?_) | (with_reducible refine bi_gtr_t (by omega) ?_) | (with_reducible refine bi_gtr_f (by omega) ?_) | (with_reducible refine bi_leq_t (by omega) ?_) | (with_reducible refine bi_leq_f (by omega) ?_) | (with_reducible refine bi_geq_t (by omega) ?_) | (with_reducible refine bi_geq_f (by omega) ?_) | (with_reducible refine bi_xt0 ?_) | (with_reducible refine bi_xt1 ?_) | (with_reducible refine bi_xt2 ?_) | (with_reducible refine bi_xt3 ?_) | (with_reducible refine bi_T ?_) | (with_reducible refine bi_F ?_) | (with_reducible refine bi_not ?_) | (with_reducible refine bi_and ?_) | (with_reducible refine bi_or ?_) | (with_reducible refine bi_xor ?_) | (with_reducible refine bi_shr (by omega) (by decide) ?_) | (with_reducible refine bi_shl (by omega) (by decide) ?_) | (with_reducible refine bi_quo64 (by omega) ?_) | (with_reducible refine bi_rem64 (by omega) ?_) | (with_reducible refine bi_mul64 (by omega) ?_) | (with_reducible refine bi_neg ?_) | (with_reducible refine bi_un_xor32 ?_) | (with_reducible refine bi_add ?_) | (with_reducible refine bi_sub ?_) | (with_reducible refine bi_mul ?_) | (with_reducible refine bi_quo (by decide) ?_) | (with_reducible refine bi_rem (by decide) ?_)))
      refine draw (Below w6.heap.size w6) (Below.refl _ _).drew ?_
      refine yix1 und45 sz23 k hk' ?_
      refine yl1 one23 (fun w' h => (h.cell hltl).trans hcl) ?_
      refine yix1 und45 sz23 k hk' ?_
      refine yl1 one23 (fun w' h => (h.cell hltl).trans hcl) ?_
      refine yix1 und23 sz5 j hj' ?_
      refine yl1 one5 (fun w' h => (h.cell (p := (⟨g, 0, none⟩ : Addr).add j) (by rw [add0]; exact hltg)).trans hz') ?_
      refine yi_xor ?_
      rw [hbits]
      refine yix1 und23 sz5 j hj' ?_
      have hgd : w6.drew.frozen? ((⟨g, 0, none⟩ : Addr).add j) = false := hgf'
      have hzd : w6.drew.cell? ((⟨g, 0, none⟩ : Addr).add j) = some (.int .u8 (z.toNat : Int)) := hz'
      refine st sz5 (by rfl) (by rw [hzd]; rfl) hgd ?_
      (repeat (first | (with_reducible refine nck ?_) | (with_reducible refine cdT ?_) | (with_reducible refine cdF ?_) | (with_reducible refine gdY ?_) | (with_reducible refine gdFT ?_) | (with_reducible refine gdTF ?_) | (with_reducible refine gdU ?_) | (with_reducible refine gaY ?_) | (with_reducible refine gaFT ?_) | (with_reducible refine gaTF ?_) | (with_reducible refine pickT ?_) | (with_reducible refine pickF ?_) | (with_reducible refine bi_lss_t (by omega) ?_) | (with_reducible refine bi_lss_f (by omega) ?_) | (with_reducible refine bi_add64 (by omega) ?_) | (with_reducible refine bi_sub64 (by omega) ?_) | (with_reducible refine bi_eql_t (by omega) ?_) | (with_reducible refine bi_eql_f (by omega) ?_) | (with_reducible refine bi_neq_t (by omega) ?_) | (with_reducible refine bi_neq_f (by omega) ?_) | (with_reducible refine bi_gtr_t (by omega) ?_) | (with_reducible refine bi_gtr_f (by omega) ?_) | (with_reducible refine bi_leq_t (by omega) ?_) | (with_reducible refine bi_leq_f (by omega) ?_) | (with_reducible refine bi_geq_t (by omega) ?_) | (with_reducible refine bi_geq_f (by omega) ?_) | (with_reducible refine bi_xt0 ?_) | (with_reducible refine bi_xt1 ?_) | (with_reducible refine bi_xt2 ?_) | (with_reducible refine bi_xt3 ?_) | (with_reducible refine bi_T ?_) | (with_reducible refine bi_F ?_) | (with_reducible refine bi_not ?_) | (with_reducible refine bi_and ?_) | (with_reducible refine bi_or ?_) | (with_reducible refine bi_xor ?_) | (with_reducible refine bi_shr (by omega) (by decide) ?_) | (with_reducible refine bi_shl (by omega) (by decide) ?_) | (with_reducible refine bi_quo64 (by omega) ?_) | (with_reducible refine bi_rem64 (by omega) ?_) | (with_reducible refine bi_mul64 (by omega) ?_) | (with_reducible refine bi_neg ?_) | (with_reducible refine bi_un_xor32 ?_) | (with_reducible refine bi_add ?_) | (with_reducible refine bi_sub ?_) | (with_reducible refine bi_mul ?_) | (with_reducible refine bi_quo (by decide) ?_) | (with_reducible refine bi_rem (by decide) ?_)))
      refine hJ' _ _ ⟨j + 1, by omega, by simp, hmid.drew.set (p := (⟨g, 0, none⟩ : Addr).add j) (by rw [add0]; exact hg1) (by rw [add0]; exact hg2) _, xs, ?_, by rw [List.length_map]; exact hxl, hx1, fun i g1 g2 hki => ?_⟩ (by simp [intOf]; omega)
      · have hd : Below w6.heap.size w6 w6.drew := (Below.refl _ _).drew
        exact (hox.below hd).far (p := (⟨g, 0, none⟩ : Addr).add j) (by rw [add0]; exact fun he => hg3 he.symm) _
      · exact ((hce i g1 g2 hki).same (w' := w6.drew) (fun _ _ _ _ => rfl)).set _ (z ^^^ 255)
    · have hjl : j = l[k].length := by omega
      (repeat (first | (with_reducible refine ix1 und45 sz23 hk' ?_) | (with_reducible refine ld one23 hcl ?_) | (with_reducible refine nck ?_) | (with_reducible refine cdT ?_) | (with_reducible refine cdF ?_) | (with_reducible refine gdY ?_) | (with_reducible refine gdFT ?_) | (with_reducible refine gdTF ?_) | (with_reducible refine gdU ?_) | (with_reducible refine gaY ?_) | (with_reducible refine gaFT ?_) | (with_reducible refine gaTF ?_) | (with_reducible refine pickT ?_) | (with_reducible refine pickF ?_) | (with_reducible refine bi_lss_t (by omega) ?_) | (with_reducible refine bi_lss_f (by omega) ?_) | (with_reducible refine bi_add64 (by omega) ?_) | (with_reducible refine bi_sub64 (by omega) ?_) | (with_reducible refine bi_eql_t (by omega) ?_) | (with_reducible refine bi_eql_f (by omega) ?_) | (with_reducible refine bi_neq_t (by omega) ?_) | (with_reducible refine bi_neq_f (by omega) ?_) | (with_reducible refine bi_gtr_t (by omega) ?_) | (with_reducible refine bi_gtr_f (by omega) ?_) | (with_reducible refine bi_leq_t (by omega) ?_) | (with_reducible refine bi_leq_f (by omega) ?_) | (with_reducible refine bi_geq_t (by omega) ?_) | (with_reducible refine bi_geq_f (by omega) ?_) | (with_reducible refine bi_xt0 ?_) | (with_reducible refine bi_xt1 ?_) | (with_reducible refine bi_xt2 ?_) | (with_reducible refine bi_xt3 ?_) | (with_reducible refine bi_T ?_) | (with_reducible refine bi_F ?_) | (with_reducible refine bi_not ?_) | (with_reducible refine bi_and ?_) | (with_reducible refine bi_or ?_) | (with_reducible refine bi_xor ?_) | (with_reducible refine bi_shr (by omega) (by decide) ?_) | (with_reducible refine bi_shl (by omega) (by decide) ?_) | (with_reducible refine bi_quo64 (by omega) ?_) | (with_reducible refine bi_rem64 (by omega) ?_) | (with_reducible refine bi_mul64 (by omega) ?_) | (with_reducible refine bi_neg ?_) | (with_reducible refine bi_un_xor32 ?_) | (with_reducible refine bi_add ?_) | (with_reducible refine bi_sub ?_) | (with_reducible refine bi_mul ?_) | (with_reducible refine bi_quo (by decide) ?_) | (with_reducible refine bi_rem (by decide) ?_)))
      refine lift (v := .slice (some ⟨w6.heap.size, 0, none⟩) 1 1) (w' := w6.alloc (.cells (([7] : List UInt8).map u8).toArray 5)) (by kernel_rfl) ?_
      have ha : w6.grownBy (w6.alloc (.cells (([7] : List UInt8).map u8).toArray 5)) none := World.grownBy_alloc _ _ _
      have hr7 : Rd (w6.alloc (.cells (([7] : List UInt8).map u8).toArray 5)) (.slice (some ⟨w6.heap.size, 0, none⟩) 1 1) (([7] : List UInt8).map u8) := (Own.new w6 5 (([7] : List UInt8).map u8) (by simp)).rd
      have hbel : Below w6.heap.size w6 (w6.alloc (.cells (([7] : List UInt8).map u8).toArray 5)) := (Below.refl _ _).alloc (Nat.le_refl _) _
      have hox7 := hox.below hbel
      have hmid7 := hmid.grown ha
      have hgb := hgl gl rfl
      have hs46 := hmid.size
      have hs34 := hb4.size
      have hceA : ∀ j, j < l[k].length → ∃ (g : Nat) (z : UInt8), Ak = some ⟨g, 0, none⟩ ∧ (w6.alloc (.cells (([7] : List UInt8).map u8).toArray 5)).cell? ⟨g, j, none⟩ = some (.int .u8 (z.toNat : Int)) := fun j hj => by
        obtain ⟨g, h1, h2, h3, h4, ⟨z, h5⟩, h6⟩ := hcells j hj
        exact ⟨g, z, h1, (hbel.cell (World.block_lt_of_cell? _ _ h5)).trans h5⟩
      have hce7 : ∀ i (h1 : i < xs.length) (h2 : i < (l.map List.length).length), k + 1 ≤ i → CE w2.heap.size w3.heap.size (some gl) (w6.alloc (.cells (([7] : List UInt8).map u8).toArray 5)) xs[i] (l.map List.length)[i] := fun i h1 h2 hi =>
        (hce i h1 h2 (by omega)).same fun g g1 g2 g3 => hbel.block g (by omega)
      generalize w6.alloc (.cells (([7] : List UInt8).map u8).toArray 5) = w7 at *
      refine apC hceA (by omega) hr7 rfl ?_
      intro A8 n8 c8 w8 hg8
      have hox8 := hox7.kept (row := none) hg8 (.inr (by simp [Value.ownBlock]))
      obtain ⟨gl', hgl', hcl8, hfl8⟩ := hox8.at k hkx
      cases hgl'
      (repeat (first | (with_reducible refine ix1 und45 sz23 hk' ?_) | (with_reducible refine nck ?_) | (with_reducible refine cdT ?_) | (with_reducible refine cdF ?_) | (with_reducible refine gdY ?_) | (with_reducible refine gdFT ?_) | (with_reducible refine gdTF ?_) | (with_reducible refine gdU ?_) | (with_reducible refine gaY ?_) | (with_reducible refine gaFT ?_) | (with_reducible refine gaTF ?_) | (with_reducible refine pickT ?_) | (with_reducible refine pickF ?_) | (with_reducible refine bi_lss_t (by omega) ?_) | (with_reducible refine bi_lss_f (by omega) ?_) | (with_reducible refine bi_add64 (by omega) ?_) | (with_reducible refine bi_sub64 (by omega) ?_) | (with_reducible refine bi_eql_t (by omega) ?_) | (with_reducible refine bi_eql_f (by omega) ?_) | (with_reducible refine bi_neq_t (by omega) ?_) | (with_reducible refine bi_neq_f (by omega) ?_) | (with_reducible refine bi_gtr_t (by omega) ?_) | (with_reducible refine bi_gtr_f (by omega) ?_) | (with_reducible refine bi_leq_t (by omega) ?_) | (with_reducible refine bi_leq_f (by omega) ?_) | (with_reducible refine bi_geq_t (by omega) ?_) | (with_reducible refine bi_geq_f (by omega) ?_) | (with_reducible refine bi_xt0 ?_) | (with_reducible refine bi_xt1 ?_) | (with_reducible refine bi_xt2 ?_) | (with_reducible refine bi_xt3 ?_) | (with_reducible refine bi_T ?_) | (with_reducible refine bi_F ?_) | (with_reducible refine bi_not ?_) | (with_reducible refine bi_and ?_) | (with_reducible refine bi_or ?_) | (with_reducible refine bi_xor ?_) | (with_reducible refine bi_shr (by omega) (by decide) ?_) | (with_reducible refine bi_shl (by omega) (by decide) ?_) | (with_reducible refine bi_quo64 (by omega) ?_) | (with_reducible refine bi_rem64 (by omega) ?_) | (with_reducible refine bi_mul64 (by omega) ?_) | (with_reducible refine bi_neg ?_) | (with_reducible refine bi_un_xor32 ?_) | (with_reducible refine bi_add ?_) | (with_reducible refine bi_sub ?_) | (with_reducible refine bi_mul ?_) | (with_reducible refine bi_quo (by decide) ?_) | (with_reducible refine bi_rem (by decide) ?_)))
      refine st sz23 rfl (by rw [hcl8]; rfl) hfl8 ?_
      have hsz7 := hmid7.size
      (repeat (first | (with_reducible refine nck ?_) | (with_reducible refine cdT ?_) | (with_reducible refine cdF ?_) | (with_reducible refine gdY ?_) | (with_reducible refine gdFT ?_) | (with_reducible refine gdTF ?_) | (with_reducible refine gdU ?_) | (with_reducible refine gaY ?_) | (with_reducible refine gaFT ?_) | (with_reducible refine gaTF ?_) | (with_reducible refine pickT ?_) | (with_reducible refine pickF ?_) | (with_reducible refine bi_lss_t (by omega) ?_) | (with_reducible refine bi_lss_f (by omega) ?_) | (with_reducible refine bi_add64 (by omega) ?_) | (with_reducible refine bi_sub64 (by omega) ?_) | (with_reducible refine bi_eql_t (by omega) ?_) | (with_reducible refine bi_eql_f (by omega) ?_) | (with_reducible refine bi_neq_t (by omega) ?_) | (with_reducible refine bi_neq_f (by omega) ?_) | (with_reducible refine bi_gtr_t (by omega) ?_) | (with_reducible refine bi_gtr_f (by omega) ?_) | (with_reducible refine bi_leq_t (by omega) ?_) | (with_reducible refine bi_leq_f (by omega) ?_) | (with_reducible refine bi_geq_t (by omega) ?_) | (with_reducible refine bi_geq_f (by omega) ?_) | (with_reducible refine bi_xt0 ?_) | (with_reducible refine bi_xt1 ?_) | (with_reducible refine bi_xt2 ?_) | (with_reducible refine bi_xt3 ?_) | (with_reducible refine bi_T ?_) | (with_reducible refine bi_F ?_) | (with_reducible refine bi_not ?_) | (with_reducible refine bi_and ?_) | (with_reducible refine bi_or ?_) | (with_reducible refine bi_xor ?_) | (with_reducible refine bi_shr (by omega) (by decide) ?_) | (with_reducible refine bi_shl (by omega) (by decide) ?_) | (with_reducible refine bi_quo64 (by omega) ?_) | (with_reducible refine bi_rem64 (by omega) ?_) | (with_reducible refine bi_mul64 (by omega) ?_) | (with_reducible refine bi_neg ?_) | (with_reducible refine bi_un_xor32 ?_) | (with_reducible refine bi_add ?_) | (with_reducible refine bi_sub ?_) | (with_reducible refine bi_mul ?_) | (with_reducible refine bi_quo (by decide) ?_) | (with_reducible refine bi_rem (by decide) ?_)))
      refine hJ _ _ ⟨k + 1, by omega, by simp, (hmid7.grown hg8).set (p := (⟨gl, 0, none⟩ : Addr).add k) (by rw [add0]; exact hgb.1) (by rw [add0]; exact hgb.2) _, _, hox8.set k hkx (.slice A8 n8 c8), by rw [List.length_set, List.length_map]; exact hxl, fun u hu => ?_, fun i g1 g2 hki => ?_⟩ (by simp [intOf]; omega)
      · rcases List.mem_or_eq_of_mem_set hu with h | h
        · exact hx1 u h
        · rw [h]; rfl
      · rw [List.length_set] at g1
        rw [List.getElem_set_ne (by omega)]
        refine (hce7 i g1 g2 hki).same fun g h1 h2 h3 => ?_
        rw [Below.heap_setCell _ _ _ _ (fun he => h3 (by rw [he, add0]))]
        exact hg8.block g (by omega) (by simp)
  have hkl : k = l.length := by omega
  obtain ⟨hmid, _⟩ := hinv
  have hbf := hmid.below hb4' hB1
  have hob' : Own 5 w5 b ((Frame.cat l).map u8) := ((hob.below hb3).below hb4).same fun k hk => by
    have h1 := hob.lt hk
    exact hmid.block k (by have := hb3.size; have := hb4.size; omega) (.inl h1)
  have hm : RdSS w5 l4 l := hr4.same hf4 fun k h1 h2 => hmid.block k h2 (.inr h1)
  (repeat (first | (with_reducible refine nck ?_) | (with_reducible refine cdT ?_) | (with_reducible refine cdF ?_) | (with_reducible refine gdY ?_) | (with_reducible refine gdFT ?_) | (with_reducible refine gdTF ?_) | (with_reducible refine gdU ?_) | (with_reducible refine gaY ?_) | (with_reducible refine gaFT ?_) | (with_reducible refine gaTF ?_) | (with_reducible refine pickT ?_) | (with_reducible refine pickF ?_) | (with_reducible refine bi_lss_t (by omega) ?_) | (with_reducible refine bi_lss_f (by omega) ?_) | (with_reducible refine bi_add64 (by omega) ?_) | (with_reducible refine bi_sub64 (by omega) ?_) | (with_reducible refine bi_eql_t (by omega) ?_) | (with_reducible refine bi_eql_f (by omega) ?_) | (with_reducible refine bi_neq_t (by omega) ?_) | (with_reducible refine bi_neq_f (by omega) ?_) | (with_reducible refine bi_gtr_t (by omega) ?_) | (with_reducible refine bi_gtr_f (by omega) ?_) | (with_reducible refine bi_leq_t (by omega) ?_) | (with_reducible refine bi_leq_f (by omega) ?_) | (with_reducible refine bi_geq_t (by omega) ?_) | (with_reducible refine bi_geq_f (by omega) ?_) | (with_reducible refine bi_xt0 ?_) | (with_reducible refine bi_xt1 ?_) | (with_reducible refine bi_xt2 ?_) | (with_reducible refine bi_xt3 ?_) | (with_reducible refine bi_T ?_) | (with_reducible refine bi_F ?_) | (with_reducible refine bi_not ?_) | (with_reducible refine bi_and ?_) | (with_reducible refine bi_or ?_) | (with_reducible refine bi_xor ?_) | (with_reducible refine bi_shr (by omega) (by decide) ?_) | (with_reducible refine bi_shl (by omega) (by decide) ?_) | (with_reducible refine bi_quo64 (by omega) ?_) | (with_reducible refine bi_rem64 (by omega) ?_) | (with_reducible refine bi_mul64 (by omega) ?_) | (with_reducible refine bi_neg ?_) | (with_reducible refine bi_un_xor32 ?_) | (with_reducible refine bi_add ?_) | (with_reducible refine bi_sub ?_) | (with_reducible refine bi_mul ?_) | (with_reducible refine bi_quo (by decide) ?_) | (with_reducible refine bi_rem (by decide) ?_)))
  refine cvBS und23 und5 und9 hob'.rdB ?_
  (repeat (first | (with_reducible refine bi_seql_t rfl ?_) | (with_reducible refine nck ?_) | (with_reducible refine cdT ?_) | (with_reducible refine cdF ?_) | (with_reducible refine gdY ?_) | (with_reducible refine gdFT ?_) | (with_reducible refine gdTF ?_) | (with_reducible refine gdU ?_) | (with_reducible refine gaY ?_) | (with_reducible refine gaFT ?_) | (with_reducible refine gaTF ?_) | (with_reducible refine pickT ?_) | (with_reducible refine pickF ?_) | (with_reducible refine bi_lss_t (by omega) ?_) | (with_reducible refine bi_lss_f (by omega) ?_) | (with_reducible refine bi_add64 (by omega) ?_) | (with_reducible refine bi_sub64 (by omega) ?_) | (with_reducible refine bi_eql_t (by omega) ?_) | (with_reducible refine bi_eql_f (by omega) ?_) | (with_reducible refine bi_neq_t (by omega) ?_) | (with_reducible refine bi_neq_f (by omega) ?_) | (with_reducible refine bi_gtr_t (by omega) ?_) | (with_reducible refine bi_gtr_f (by omega) ?_) | (with_reducible refine bi_leq_t (by omega) ?_) | (with_reducible refine bi_leq_f (by omega) ?_) | (with_reducible refine bi_geq_t (by omega) ?_) | (with_reducible refine bi_geq_f (by omega) ?_) | (with_reducible refine bi_xt0 ?_) | (with_reducible refine bi_xt1 ?_) | (with_reducible refine bi_xt2 ?_) | (with_reducible refine bi_xt3 ?_) | (with_reducible refine bi_T ?_) | (with_reducible refine bi_F ?_) | (with_reducible refine bi_not ?_) | (with_reducible refine bi_and ?_) | (with_reducible refine bi_or ?_) | (with_reducible refine bi_xor ?_) | (with_reducible refine bi_shr (by omega) (by decide) ?_) | (with_reducible refine bi_shl (by omega) (by decide) ?_) | (with_reducible refine bi_quo64 (by omega) ?_) | (with_reducible refine bi_rem64 (by omega) ?_) | (with_reducible refine bi_mul64 (by omega) ?_) | (with_reducible refine bi_neg ?_) | (with_reducible refine bi_un_xor32 ?_) | (with_reducible refine bi_add ?_) | (with_reducible refine bi_sub ?_) | (with_reducible refine bi_mul ?_) | (with_reducible refine bi_quo (by decide) ?_) | (with_reducible refine bi_rem (by decide) ?_)))
  refine (Same_spec _ _ _ _ hm (hv.below hbf)).mono ?_
  rintro _ w6 ⟨rfl, hb6⟩
  (repeat (first | (with_reducible refine nck ?_) | (with_reducible refine cdT ?_) | (with_reducible refine cdF ?_) | (with_reducible refine gdY ?_) | (with_reducible refine gdFT ?_) | (with_reducible refine gdTF ?_) | (with_reducible refine gdU ?_) | (with_reducible refine gaY ?_) | (with_reducible refine gaFT ?_) | (with_reducible refine gaTF ?_) | (with_reducible refine pickT ?_) | (with_reducible refine pickF ?_) | (with_reducible refine bi_lss_t (by omega) ?_) | (with_reducible refine bi_lss_f (by omega) ?_) | (with_reducible refine bi_add64 (by omega) ?_) | (with_reducible refine bi_sub64 (by omega) ?_) | (with_reducible refine bi_eql_t (by omega) ?_) | (with_reducible refine bi_eql_f (by omega) ?_) | (with_reducible refine bi_neq_t (by omega) ?_) | (with_reducible refine bi_neq_f (by omega) ?_) | (with_reducible refine bi_gtr_t (by omega) ?_) | (with_reducible refine bi_gtr_f (by omega) ?_) | (with_reducible refine bi_leq_t (by omega) ?_) | (with_reducible refine bi_leq_f (by omega) ?_) | (with_reducible refine bi_geq_t (by omega) ?_) | (with_reducible refine bi_geq_f (by omega) ?_) | (with_reducible refine bi_xt0 ?_) | (with_reducible refine bi_xt1 ?_) | (with_reducible refine bi_xt2 ?_) | (with_reducible refine bi_xt3 ?_) | (with_reducible refine bi_T ?_) | (with_reducible refine bi_F ?_) | (with_reducible refine bi_not ?_) | (with_reducible refine bi_and ?_) | (with_reducible refine bi_or ?_) | (with_reducible refine bi_xor ?_) | (with_reducible refine bi_shr (by omega) (by decide) ?_) | (with_reducible refine bi_shl (by omega) (by decide) ?_) | (with_reducible refine bi_quo64 (by omega) ?_) | (with_reducible refine bi_rem64 (by omega) ?_) | (with_reducible refine bi_mul64 (by omega) ?_) | (with_reducible refine bi_neg ?_) | (with_reducible refine bi_un_xor32 ?_) | (with_reducible refine bi_add ?_) | (with_reducible refine bi_sub ?_) | (with_reducible refine bi_mul ?_) | (with_reducible refine bi_quo (by decide) ?_) | (with_reducible refine bi_rem (by decide) ?_)))
  exact ⟨rfl, below_then hbf hb6⟩
end Go.Proofs.Ytgaamfdhjpkicaa.E
