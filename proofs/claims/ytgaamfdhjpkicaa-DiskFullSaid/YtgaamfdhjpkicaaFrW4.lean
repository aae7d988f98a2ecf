/- Scan once more: what it answers may be written, and lies in new memory. -/
import Derived.Test.YtgaamfdhjpkicaaFrL9
import Derived.ArgAppend
namespace Go.Proofs.Ytgaamfdhjpkicaa.E
open Go Go.RowKit
set_option linter.unusedSimpArgs false
set_option linter.unusedVariables false

/-- u reads as p, without room behind; its cells lie behind B and may be written. -/
def Elem (w : World) (B : Nat) (u : Value) (p : List UInt8) : Prop :=
  RdB w u p ∧ ∃ A, u = .slice A p.length p.length ∧ ∀ j, j < p.length → ∃ g, A = some ⟨g, 0, none⟩ ∧ B ≤ g ∧ w.frozen? ⟨g, j, none⟩ = false
theorem Elem.grown {w w' : World} {B : Nat} {u : Value} {p : List UInt8} {row : Option Nat} (h : Elem w B u p) (hg : w.grownBy w' row) (hne : p = [] ∨ u.ownBlock ≠ row) : Elem w' B u p := by
  obtain ⟨h1, A, rfl, h2⟩ := h
  refine ⟨Rd.grown h1 hg (hne.imp (fun h => by rw [h]; rfl) id), A, rfl, fun j hj => ?_⟩
  obtain ⟨g, rfl, h3, h4⟩ := h2 j hj
  refine ⟨g, rfl, h3, ?_⟩
  obtain ⟨a, ha, hc⟩ := RdB.at h1 j hj
  cases ha
  rw [add0, Nat.zero_add] at hc
  have hgr : some g ≠ row := by
    rcases hne with h | h
    · rw [h] at hj; simp at hj
    · exact h
  have e := World.frozen?_of_block (w := w) (w' := w') (a := ⟨g, j, none⟩) (hg.block g (World.block_lt_of_cell? w _ hc) hgr)
  rw [e]
  exact h4
theorem Elem.below {w w' : World} {B : Nat} {u : Value} {p : List UInt8} (h : Elem w B u p) (hb : Below w.heap.size w w') : Elem w' B u p :=
  h.grown (row := none) ⟨hb.os, hb.tape, hb.output, hb.size, fun k hk _ => hb.block k hk⟩ (by
    by_cases hp : p = []
    · exact .inl hp
    · obtain ⟨j, hj, _⟩ := Rd.block_lt h.1 (by simpa using hp)
      exact .inr (by rw [hj]; simp))
def RowE (w : World) (B : Nat) (l : Value) (acc : List (List UInt8)) : Prop :=
  ∃ xs, Own 23 w l xs ∧ xs.length = acc.length ∧ (∀ u ∈ xs, u.oneCell' = true) ∧ ∀ i (h1 : i < xs.length) (h2 : i < acc.length), Elem w B xs[i] acc[i] ∧ (acc[i] = [] ∨ xs[i].ownBlock ≠ l.ownBlock)
theorem RowE.nil (w : World) (B : Nat) : RowE w B (.slice none 0 0) [] := ⟨[], Own.nil 23 w, rfl, by simp, fun i h1 => by simp at h1⟩
theorem RowE.below {w w' : World} {B : Nat} {l : Value} {acc : List (List UInt8)} (h : RowE w B l acc) (hb : Below w.heap.size w w') : RowE w' B l acc := by
  obtain ⟨xs, h1, h2, h3, h4⟩ := h
  exact ⟨xs, h1.below hb, h2, h3, fun i g1 g2 => ⟨(h4 i g1 g2).1.below hb, (h4 i g1 g2).2⟩⟩
theorem RowE.rd {w : World} {B : Nat} {l : Value} {acc : List (List UInt8)} (h : RowE w B l acc) : RdSS w l acc := by
  obtain ⟨xs, h1, h2, _, h4⟩ := h
  exact RdSS.of h1.rd h2 fun i g1 g2 => (h4 i g1 g2).1.1
theorem RowE.lt {w : World} {B : Nat} {l : Value} {acc : List (List UInt8)} (h : RowE w B l acc) {k : Nat} (hk : l.ownBlock = some k) : k < w.heap.size := by
  obtain ⟨xs, h1, _⟩ := h
  exact h1.lt hk
theorem apE {K : Value → World → Prop} {w : World} {t ty : TypeId} {cs : Array Bool} {z : Value} {bytes : Nat} (B : Nat) (ht : Try.prog.underlying t = some (.slice 23)) (hinfo : (Try.prog.info? 23).map (fun i => (i.zero, i.size, i.bytes)) = some (some z, 1, bytes)) (hz : z.cells.size = 1) (hb0 : 0 < bytes)
    {l x u : Value} {acc : List (List UInt8)} {p : List UInt8} (hl : RowE w B l acc) (hf : Fresh B l) (hB : B ≤ w.heap.size) (hx : Rd w x [u]) (hu : Elem w B u p) (hne : p = [] ∨ u.ownBlock ≠ l.ownBlock) (hbd : (acc.length + 1) * bytes ≤ 140737488355328)
    (k : ∀ v' w', RowE w' B v' (acc ++ [p]) → Fresh B v' → Below B w w' → K v' w') : NextP Try.prog (builtin .append #[t, t] ty cs #[l, x]) K w := by
  obtain ⟨xs, h1, h2, h3, h4⟩ := hl
  have h1u : u.oneCell' = true := by obtain ⟨_, A, rfl, _⟩ := hu; rfl
  refine ap ht hinfo hz hb0 h1 hx (by simpa using h1u) (by rw [h2]; exact hbd) fun v' w' ho hg hbl => k v' w' ?_ (fun j hj => by rcases hbl with h | h <;> rw [h] at hj; exact hf j hj; cases hj; exact hB) ((Below.refl B w).grown hg hB (fun j hj => hf j hj))
  have old : ∀ (y : Value) (q : List UInt8), Elem w B y q → (q = [] ∨ y.ownBlock ≠ l.ownBlock) → Elem w' B y q ∧ (q = [] ∨ y.ownBlock ≠ v'.ownBlock) := by
    intro y q hr hn
    refine ⟨hr.grown hg hn, ?_⟩
    by_cases hq : q = []
    · exact .inl hq
    refine .inr fun he => ?_
    obtain ⟨j, hj, hlt⟩ := Rd.block_lt hr.1 (by simpa using hq)
    rcases hbl with h | h
    · exact (hn.resolve_left hq) (he.trans h)
    · rw [h, hj] at he
      cases he
      omega
  refine ⟨xs ++ [u], ho, by simp [h2], ?_, ?_⟩
  · intro y hy
    rcases List.mem_append.1 hy with h | h
    · exact h3 y h
    · simp at h; rw [h]; exact h1u
  · intro i g1 g2
    by_cases hi : i < xs.length
    · rw [List.getElem_append_left hi, List.getElem_append_left (by omega)]
      exact old _ _ (h4 i hi (by omega)).1 (h4 i hi (by omega)).2
    · have hil : i = xs.length := by simp at g1; omega
      subst hil
      have e2 : (acc ++ [p])[xs.length] = p := by rw [List.getElem_append_right (by omega)]; simp [h2]
      rw [List.getElem_append_right (Nat.le_refl _)]
      simp only [Nat.sub_self, List.getElem_cons_zero]
      rw [e2]
      exact old u p hu hne
theorem Clone_own (v : Value) (bs : List UInt8) (w : World) (hv : RdB w v bs) (hl : bs.length ≤ 1000000000) :
    CallP Try.prog 50 #[v] (fun r w' => Own 5 w' r (bs.map u8) ∧ Fresh w.heap.size r ∧ Below w.heap.size w w') w := by
  obtain ⟨A, c, rfl, hc1, hc2, hcell⟩ := hv.slice
  refine ⟨S50.calls _ _ _ ?_⟩
  unfold S50
  refine ofPR (pr_snil und23) ?_
  cases A with
  | none =>
    have hb : bs = [] := by
      cases bs with
      | nil => rfl
      | cons b r => obtain ⟨a, h, _⟩ := hcell 0 (by simp); cases h
    subst hb
    simp only [Option.isNone_none]
    (repeat (first | (with_reducible refine nck ?_) | (with_reducible refine cdT ?_) | (with_reducible refine cdF ?_) | (with_reducible refine gdY ?_) | (with_reducible refine gdFT ?_) | (with_reducible refine gdTF ?_) | (with_reducible refine gdU ?_) | (with_reducible refine gaY ?_) | (with_reducible refine gaFT ?_) | (with_reducible refine gaTF ?_) | (with_reducible refine pickT ?_) | (with_reducible refine pickF ?_) | (with_reducible refine bi_lss_t (by omega) ?_) | (with_reducible refine bi_lss_f (by omega) ?_) | (with_reducible refine bi_add64 (by omega) ?_) | (with_reducible refine bi_sub64 (by omega) ?_) | (with_reducible refine bi_eql_t (by omega) ?_) | (with_reducible refine bi_eql_f (by omega) ?_) | (with_reducible refine bi_neq_t (by omega) ?_) | (with_reducible refine bi_neq_f (by omega) ?_) | (with_reducible refine bi_gtr_t (by omega) ?_) | (with_reducible refine bi_gtr_f (by omega) ?_) | (with_reducible refine bi_leq_t (by omega) ?_) | (with_reducible refine bi_leq_f (by omega) ?_) | (with_reducible refine bi_geq_t (by omega) ?_) | (with_reducible refine bi_geq_f (by omega) ?_) | (with_reducible refine bi_xt0 ?_) | (with_reducible refine bi_xt1 ?_) | (with_reducible refine bi_xt2 ?_) | (with_reducible refine bi_xt3 ?_) | (with_reducible refine bi_T ?_) | (with_reducible refine bi_F ?_) | (with_reducible refine bi_not ?_) | (with_reducible refine bi_and ?_) | (with_reducible refine bi_or ?_) | (with_reducible refine bi_xor ?_) | (with_reducible refine bi_shr (by omega) (by decide) ?_) | (with_reducible refine bi_shl (by omega) (by decide) ?_) | (with_reducible refine bi_quo64 (by omega) ?_) | (with_reducible refine bi_rem64 (by omega) ?_) | (with_reducible refine bi_mul64 (by omega) ?_) | (with_reducible refine bi_neg ?_) | (with_reducible refine bi_un_xor32 ?_) | (with_reducible refine bi_add ?_) | (with_reducible refine bi_sub ?_) | (with_reducible refine bi_mul ?_) | (with_reducible refine bi_quo (by decide) ?_) | (with_reducible refine bi_rem (by decide) ?_)))
    exact ⟨Own.nil 5 w, Fresh.nil _, Below.refl _ w⟩
  | some a =>
    simp only [Option.isNone_some]
    (repeat (first | (with_reducible refine nck ?_) | (with_reducible refine cdT ?_) | (with_reducible refine cdF ?_) | (with_reducible refine gdY ?_) | (with_reducible refine gdFT ?_) | (with_reducible refine gdTF ?_) | (with_reducible refine gdU ?_) | (with_reducible refine gaY ?_) | (with_reducible refine gaFT ?_) | (with_reducible refine gaTF ?_) | (with_reducible refine pickT ?_) | (with_reducible refine pickF ?_) | (with_reducible refine bi_lss_t (by omega) ?_) | (with_reducible refine bi_lss_f (by omega) ?_) | (with_reducible refine bi_add64 (by omega) ?_) | (with_reducible refine bi_sub64 (by omega) ?_) | (with_reducible refine bi_eql_t (by omega) ?_) | (with_reducible refine bi_eql_f (by omega) ?_) | (with_reducible refine bi_neq_t (by omega) ?_) | (with_reducible refine bi_neq_f (by omega) ?_) | (with_reducible refine bi_gtr_t (by omega) ?_) | (with_reducible refine bi_gtr_f (by omega) ?_) | (with_reducible refine bi_leq_t (by omega) ?_) | (with_reducible refine bi_leq_f (by omega) ?_) | (with_reducible refine bi_geq_t (by omega) ?_) | (with_reducible refine bi_geq_f (by omega) ?_) | (with_reducible refine bi_xt0 ?_) | (with_reducible refine bi_xt1 ?_) | (with_reducible refine bi_xt2 ?_) | (with_reducible refine bi_xt3 ?_) | (with_reducible refine bi_T ?_) | (with_reducible refine bi_F ?_) | (with_reducible refine bi_not ?_) | (with_reducible refine bi_and ?_) | (with_reducible refine bi_or ?_) | (with_reducible refine bi_xor ?_) | (with_reducible refine bi_shr (by omega) (by decide) ?_) | (with_reducible refine bi_shl (by omega) (by decide) ?_) | (with_reducible refine bi_quo64 (by omega) ?_) | (with_reducible refine bi_rem64 (by omega) ?_) | (with_reducible refine bi_mul64 (by omega) ?_) | (with_reducible refine bi_neg ?_) | (with_reducible refine bi_un_xor32 ?_) | (with_reducible refine bi_add ?_) | (with_reducible refine bi_sub ?_) | (with_reducible refine bi_mul ?_) | (with_reducible refine bi_quo (by decide) ?_) | (with_reducible refine bi_rem (by decide) ?_)))
    refine bs0 und23 sz5 ?_
    have ha : Below w.heap.size w (w.alloc (.cells #[] 5)) := (Below.refl _ _).alloc (Nat.le_refl _) _
    refine apF w.heap.size und23 inf5 (by rfl) (by decide) (Own.lit0 w 5) (Fresh.new (Nat.le_refl _) 0 0) ha.size (hv.below ha) (u8_one bs) (by simp; omega) ?_
    intro v2 w2 ho2 hf2 hb2 _
    exact ⟨by simpa using ho2, hf2, ha.trans hb2⟩
theorem Clip_elem (v : Value) (bs : List UInt8) (B : Nat) (w : World) (hv : Own 5 w v (bs.map u8)) (hf : Fresh B v) :
    CallP Try.prog 49 #[v] (fun r w' => Elem w B r bs ∧ r.ownBlock = v.ownBlock ∧ w = w') w := by
  obtain ⟨A, c, rfl⟩ := hv.slice
  simp only [List.length_map] at hv hf ⊢
  have hr := hv.rdB
  have hc1 : bs.length ≤ c := by
    obtain ⟨A1, c1, he, h1, _⟩ := hr.slice
    simp only [Value.slice.injEq] at he
    omega
  refine ⟨S49.calls _ _ _ ?_⟩
  unfold S49
  refine ln und23 ?_
  refine ln und23 ?_
  refine ofPR (pr_cut und23 sz5 .no (.at _ _) (.at _ _) (Nat.zero_le _) (fun h => by cases h) (Nat.le_refl _) hc1 (.inr (by simp))) ?_
  have h0 := sliced_rd hr (l := 0) (k := bs.length) (m := bs.length) (Nat.zero_le _) (by simp) (Nat.le_refl _) hc1
  rw [List.drop_zero, List.take_of_length_le (by simp)] at h0
  have e : sliced A 0 bs.length bs.length 1 = .slice A bs.length bs.length := by
    simp only [sliced, Nat.sub_zero]
    congr 1
    split
    · rfl
    · cases A <;> simp [Addr.add_zero']
  simp only [List.headD_cons]
  rw [e] at h0 ⊢
  refine ⟨⟨h0, A, rfl, fun j hj => ?_⟩, by cases A <;> rfl, trivial⟩
  obtain ⟨g, rfl, h1, h2⟩ := hv.at j (by simpa using hj)
  rw [add0, Nat.zero_add] at h2
  exact ⟨g, rfl, hf g rfl, h2⟩
theorem Scan_elem (v : Value) (bs : List UInt8) (w : World) (hv : RdB w v bs) (hl : bs.length ≤ 1000000) :
    CallP Try.prog 29 #[v] (fun r w' => ∃ l, r = .tuple #[l, .int .i64 (Frame.scan bs).2] ∧ RowE w' w.heap.size l (Frame.scan bs).1 ∧ Fresh w.heap.size l ∧ Below w.heap.size w w') w := by
  obtain ⟨A, c, rfl, hc1, hc2, hcell⟩ := hv.slice
  refine ⟨S29.calls _ _ _ ?_⟩
  unfold S29
  refine LoopP.inv2 (fun l i w' => ∃ (n : Nat) (acc : List (List UInt8)), n ≤ bs.length ∧ i = .int .i64 n ∧ acc.length ≤ n ∧ Frame.scan bs = (acc ++ (Frame.scan (bs.drop n)).1, n + (Frame.scan (bs.drop n)).2) ∧ RowE w' w.heap.size l acc ∧ Fresh w.heap.size l ∧ Below w.heap.size w w') (fun _ i _ => bs.length - (intOf i).toNat)
    ⟨0, [], by omega, rfl, by simp, by simp, RowE.nil w _, Fresh.nil _, Below.refl _ w⟩ ?_
  rintro l _ w1 ⟨n, acc, hn, rfl, hacc, hscan, hrow, hf, hb1⟩ J hJ
  dsimp only [List.headD_cons, List.tail_cons]
  have hv1 := hv.below hb1
  refine ctB und23 sz5 hv1 (.at _ _) .no hn (Nat.le_refl _) ?_
  intro v2 hr2
  rw [List.take_length] at hr2
  refine (view_spec v2 (bs.drop n) w1 hr2 (by rw [List.length_drop]; omega)).mono ?_
  rintro _ w2 ⟨x, rfl, hrx, hb2⟩
  have hb2' := below_then hb1 hb2
  (repeat (first | (with_reducible refine nck ?_) | (with_reducible refine cdT ?_) | (with_reducible refine cdF ?_) | (with_reducible refine gdY ?_) | (with_reducible refine gdFT ?_) | (with_reducible refine gdTF ?_) | (with_reducible refine gdU ?_) | (with_reducible refine gaY ?_) | (with_reducible refine gaFT ?_) | (with_reducible refine gaTF ?_) | (with_reducible refine pickT ?_) | (with_reducible refine pickF ?_) | (with_reducible refine bi_lss_t (by omega) ?_) | (with_reducible refine bi_lss_f (by omega) ?_) | (with_reducible refine bi_add64 (by omega) ?_) | (with_reducible refine bi_sub64 (by omega) ?_) | (with_reducible refine bi_eql_t (by omega) ?_) | (with_reducible refine bi_eql_f (by omega) ?_) | (with_reducible refine bi_neq_t (by omega) ?_) | (with_reducible refine bi_neq_f (by omega) ?_) | (with_reducible refine bi_gtr_t (by omega) ?_) | (with_reducible refine bi_gtr_f (by omega) ?_) | (with_reducible refine bi_leq_t (by omega) ?_) | (with_reducible refine bi_leq_f (by omega) ?_) | (with_reducible refine bi_geq_t (by omega) ?_) | (with_reducible refine bi_geq_f (by omega) ?_) | (with_reducible refine bi_xt0 ?_) | (with_reducible refine bi_xt1 ?_) | (with_reducible refine bi_xt2 ?_) | (with_reducible refine bi_xt3 ?_) | (with_reducible refine bi_T ?_) | (with_reducible refine bi_F ?_) | (with_reducible refine bi_not ?_) | (with_reducible refine bi_and ?_) | (with_reducible refine bi_or ?_) | (with_reducible refine bi_xor ?_) | (with_reducible refine bi_shr (by omega) (by decide) ?_) | (with_reducible refine bi_shl (by omega) (by decide) ?_) | (with_reducible refine bi_quo64 (by omega) ?_) | (with_reducible refine bi_rem64 (by omega) ?_) | (with_reducible refine bi_mul64 (by omega) ?_) | (with_reducible refine bi_neg ?_) | (with_reducible refine bi_un_xor32 ?_) | (with_reducible refine bi_add ?_) | (with_reducible refine bi_sub ?_) | (with_reducible refine bi_mul ?_) | (with_reducible refine bi_quo (by decide) ?_) | (with_reducible refine bi_rem (by decide) ?_)))
  (first | refine bi_lss_c (fun h => ?_) (fun h => ?_) | refine bi_eql_c (fun h => ?_) (fun h => ?_) | refine bi_neq_c (fun h => ?_) (fun h => ?_) | refine bi_gtr_c (fun h => ?_) (fun h => ?_) | refine bi_leq_c (fun h => ?_) (fun h => ?_) | refine bi_geq_c (fun h => ?_) (fun h => ?_) | refine bi_seql_c (fun h => ?_) (fun h => ?_) | refine bi_sneq_c (fun h => ?_) (fun h => ?_))
  · (repeat (first | (with_reducible refine nck ?_) | (with_reducible refine cdT ?_) | (with_reducible refine cdF ?_) | (with_reducible refine gdY ?_) | (with_reducible refine gdFT ?_) | (with_reducible refine gdTF ?_) | (with_reducible refine gdU ?_) | (with_reducible refine gaY ?_) | (with_reducible refine gaFT ?_) | (with_reducible refine gaTF ?_) | (with_reducible refine pickT ?_) | (with_reducible refine pickF ?_) | (with_reducible refine bi_lss_t (by omega) ?_) | (with_reducible refine bi_lss_f (by omega) ?_) | (with_reducible refine bi_add64 (by omega) ?_) | (with_reducible refine bi_sub64 (by omega) ?_) | (with_reducible refine bi_eql_t (by omega) ?_) | (with_reducible refine bi_eql_f (by omega) ?_) | (with_reducible refine bi_neq_t (by omega) ?_) | (with_reducible refine bi_neq_f (by omega) ?_) | (with_reducible refine bi_gtr_t (by omega) ?_) | (with_reducible refine bi_gtr_f (by omega) ?_) | (with_reducible refine bi_leq_t (by omega) ?_) | (with_reducible refine bi_leq_f (by omega) ?_) | (with_reducible refine bi_geq_t (by omega) ?_) | (with_reducible refine bi_geq_f (by omega) ?_) | (with_reducible refine bi_xt0 ?_) | (with_reducible refine bi_xt1 ?_) | (with_reducible refine bi_xt2 ?_) | (with_reducible refine bi_xt3 ?_) | (with_reducible refine bi_T ?_) | (with_reducible refine bi_F ?_) | (with_reducible refine bi_not ?_) | (with_reducible refine bi_and ?_) | (with_reducible refine bi_or ?_) | (with_reducible refine bi_xor ?_) | (with_reducible refine bi_shr (by omega) (by decide) ?_) | (with_reducible refine bi_shl (by omega) (by decide) ?_) | (with_reducible refine bi_quo64 (by omega) ?_) | (with_reducible refine bi_rem64 (by omega) ?_) | (with_reducible refine bi_mul64 (by omega) ?_) | (with_reducible refine bi_neg ?_) | (with_reducible refine bi_un_xor32 ?_) | (with_reducible refine bi_add ?_) | (with_reducible refine bi_sub ?_) | (with_reducible refine bi_mul ?_) | (with_reducible refine bi_quo (by decide) ?_) | (with_reducible refine bi_rem (by decide) ?_)))
    rw [Frame.scan_end (bs.drop n) (by omega)] at hscan
    rw [hscan]
    exact ⟨l, rfl, by simpa using hrow.below hb2, hf, hb2'⟩
  have hok : (Frame.view (bs.drop n)).2.2 = 0 := by omega
  have hvw := Frame.view_ok _ hok
  rw [List.length_drop] at hvw
  rw [Frame.scan_ok _ hok, List.drop_drop] at hscan
  have hpl : (Frame.view (bs.drop n)).1.length ≤ 1000000 := by
    rw [hvw.2.2.1, Frame.part, List.length_take, List.length_drop, List.length_drop]; omega
  generalize (Frame.view (bs.drop n)).1 = p at *
  generalize (Frame.view (bs.drop n)).2.1 = m at *
  (repeat (first | (with_reducible refine nck ?_) | (with_reducible refine cdT ?_) | (with_reducible refine cdF ?_) | (with_reducible refine gdY ?_) | (with_reducible refine gdFT ?_) | (with_reducible refine gdTF ?_) | (with_reducible refine gdU ?_) | (with_reducible refine gaY ?_) | (with_reducible refine gaFT ?_) | (with_reducible refine gaTF ?_) | (with_reducible refine pickT ?_) | (with_reducible refine pickF ?_) | (with_reducible refine bi_lss_t (by omega) ?_) | (with_reducible refine bi_lss_f (by omega) ?_) | (with_reducible refine bi_add64 (by omega) ?_) | (with_reducible refine bi_sub64 (by omega) ?_) | (with_reducible refine bi_eql_t (by omega) ?_) | (with_reducible refine bi_eql_f (by omega) ?_) | (with_reducible refine bi_neq_t (by omega) ?_) | (with_reducible refine bi_neq_f (by omega) ?_) | (with_reducible refine bi_gtr_t (by omega) ?_) | (with_reducible refine bi_gtr_f (by omega) ?_) | (with_reducible refine bi_leq_t (by omega) ?_) | (with_reducible refine bi_leq_f (by omega) ?_) | (with_reducible refine bi_geq_t (by omega) ?_) | (with_reducible refine bi_geq_f (by omega) ?_) | (with_reducible refine bi_xt0 ?_) | (with_reducible refine bi_xt1 ?_) | (with_reducible refine bi_xt2 ?_) | (with_reducible refine bi_xt3 ?_) | (with_reducible refine bi_T ?_) | (with_reducible refine bi_F ?_) | (with_reducible refine bi_not ?_) | (with_reducible refine bi_and ?_) | (with_reducible refine bi_or ?_) | (with_reducible refine bi_xor ?_) | (with_reducible refine bi_shr (by omega) (by decide) ?_) | (with_reducible refine bi_shl (by omega) (by decide) ?_) | (with_reducible refine bi_quo64 (by omega) ?_) | (with_reducible refine bi_rem64 (by omega) ?_) | (with_reducible refine bi_mul64 (by omega) ?_) | (with_reducible refine bi_neg ?_) | (with_reducible refine bi_un_xor32 ?_) | (with_reducible refine bi_add ?_) | (with_reducible refine bi_sub ?_) | (with_reducible refine bi_mul ?_) | (with_reducible refine bi_quo (by decide) ?_) | (with_reducible refine bi_rem (by decide) ?_)))
  refine (Clone_own x p w2 hrx (by omega)).mono ?_
  rintro v3 w3 ⟨ho3, hf3, hb3⟩
  have hb3' := below_then hb2' hb3
  refine (Clip_elem v3 p w.heap.size w3 ho3 (fun k hk => Nat.le_trans hb2'.size (hf3 k hk))).mono ?_
  rintro v4 _ ⟨he4, hbl4, rfl⟩
  have he4' := he4
  obtain ⟨hr4, A4, rfl, hfz4⟩ := he4
  refine lift (v := .slice (some ⟨w3.heap.size, 0, none⟩) 1 1) (w' := w3.alloc (.cells #[.slice A4 p.length p.length] 23)) (by kernel_rfl) ?_
  have ha : Below w3.heap.size w3 (w3.alloc (.cells #[.slice A4 p.length p.length] 23)) := (Below.refl _ _).alloc (Nat.le_refl _) _
  have hrow' := ((hrow.below hb2).below hb3).below ha
  refine apE w.heap.size und45 inf23 (by rfl) (by decide) hrow' hf (below_then hb3' ha).size (Own.new w3 23 [.slice A4 p.length p.length] (by simp)).rd (he4'.below ha) ?_ (by omega) ?_
  · by_cases hp : p = []
    · exact .inl hp
    refine .inr fun he => ?_
    obtain ⟨j, hj, _⟩ := Rd.block_lt hr4 (by simpa using hp)
    have h1 := hf3 j (hbl4 ▸ hj)
    rw [hj] at he
    have h2 := (hrow.below hb2).lt he.symm
    omega
  intro v5 w5 hrow5 hf5 hb5
  (repeat (first | (with_reducible refine nck ?_) | (with_reducible refine cdT ?_) | (with_reducible refine cdF ?_) | (with_reducible refine gdY ?_) | (with_reducible refine gdFT ?_) | (with_reducible refine gdTF ?_) | (with_reducible refine gdU ?_) | (with_reducible refine gaY ?_) | (with_reducible refine gaFT ?_) | (with_reducible refine gaTF ?_) | (with_reducible refine pickT ?_) | (with_reducible refine pickF ?_) | (with_reducible refine bi_lss_t (by omega) ?_) | (with_reducible refine bi_lss_f (by omega) ?_) | (with_reducible refine bi_add64 (by omega) ?_) | (with_reducible refine bi_sub64 (by omega) ?_) | (with_reducible refine bi_eql_t (by omega) ?_) | (with_reducible refine bi_eql_f (by omega) ?_) | (with_reducible refine bi_neq_t (by omega) ?_) | (with_reducible refine bi_neq_f (by omega) ?_) | (with_reducible refine bi_gtr_t (by omega) ?_) | (with_reducible refine bi_gtr_f (by omega) ?_) | (with_reducible refine bi_leq_t (by omega) ?_) | (with_reducible refine bi_leq_f (by omega) ?_) | (with_reducible refine bi_geq_t (by omega) ?_) | (with_reducible refine bi_geq_f (by omega) ?_) | (with_reducible refine bi_xt0 ?_) | (with_reducible refine bi_xt1 ?_) | (with_reducible refine bi_xt2 ?_) | (with_reducible refine bi_xt3 ?_) | (with_reducible refine bi_T ?_) | (with_reducible refine bi_F ?_) | (with_reducible refine bi_not ?_) | (with_reducible refine bi_and ?_) | (with_reducible refine bi_or ?_) | (with_reducible refine bi_xor ?_) | (with_reducible refine bi_shr (by omega) (by decide) ?_) | (with_reducible refine bi_shl (by omega) (by decide) ?_) | (with_reducible refine bi_quo64 (by omega) ?_) | (with_reducible refine bi_rem64 (by omega) ?_) | (with_reducible refine bi_mul64 (by omega) ?_) | (with_reducible refine bi_neg ?_) | (with_reducible refine bi_un_xor32 ?_) | (with_reducible refine bi_add ?_) | (with_reducible refine bi_sub ?_) | (with_reducible refine bi_mul ?_) | (with_reducible refine bi_quo (by decide) ?_) | (with_reducible refine bi_rem (by decide) ?_)))
  refine hJ _ _ _ ⟨n + m, acc ++ [p], by omega, by simp, by simp; omega, ?_, hrow5, hf5, (below_then hb3' ha).trans hb5⟩ (by simp [intOf]; omega)
  rw [hscan]
  simp [Nat.add_assoc]
end Go.Proofs.Ytgaamfdhjpkicaa.E
