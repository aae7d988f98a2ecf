import Derived.Test.YtcfncjejpjjhdaaM5
import Derived.Test.YtcfncjejpjjhdaaLaySort
namespace Go.Proofs.Ytcfncjejpjjhdaa.E
open Go Go.RowKit Go.Sort
set_option linter.unusedSimpArgs false
set_option linter.unusedVariables false

theorem cmp49x (r q : Rg) (w : World) : CallP Try.prog 64 #[rgV r, rgV q] (fun v w' => v = .int .i64 (cmpT r.1 q.1) ∧ w' = (w.alloc (.cells (rgA r) 32)).alloc (.cells (rgA q) 32)) w := by
  refine ⟨S64.calls _ _ _ _ ?_⟩
  unfold S64
  refine bx ?_
  have hB : Blk (w.alloc (.cells (rgA r) 32)) w.heap.size 32 (rgA r) := Blk.new w 32 _
  have e1 : w.alloc (.cells (rgV r).cells 32) = w.alloc (.cells (rgA r) 32) := rfl
  rw [e1]
  generalize w.alloc (.cells (rgA r) 32) = w1 at *
  refine bx ?_
  have hC : Blk (w1.alloc (.cells (rgA q) 32)) w1.heap.size 32 (rgA q) := Blk.new w1 32 _
  have e2 : w1.alloc (.cells (rgV q).cells 32) = w1.alloc (.cells (rgA q) 32) := rfl
  rw [e2]
  have ha2 := (Below.refl w1.heap.size w1).alloc (Nat.le_refl _) (.cells (rgA q) 32)
  have hB2 := hB.below' ha2
  generalize hg2 : w1.heap.size = g2 at *
  generalize w1.alloc (.cells (rgA q) 32) = w2 at *
  have c0 : w2.cell? ⟨w.heap.size, 0, none⟩ = some (tS r.1) := hB2.cell 0
  have d0 : w2.cell? ⟨g2, 0, none⟩ = some (tS q.1) := hC.cell 0
  (repeat with_reducible first | refine fd g0 (by decide) ?_| refine ld one9 c0 ?_| refine ld one9 d0 ?_|refine z_a ?_|refine z_b ?_|refine z_c ?_|refine z_d ?_|refine z_e ?_|refine z_f ?_|refine z_g ?_|refine z_h ?_|refine z_i ?_|refine z_j ?_|refine z_k ?_|refine z_l ?_|refine z_m (by omega) ?_|refine z_n (by omega) ?_|refine z_o (by omega) ?_|refine z_p (by omega) ?_|refine z_q (by omega) ?_|refine z_r (by omega) ?_|refine z_s (by omega) ?_|refine z_t (by omega) ?_|refine z_u (by omega) ?_|refine z_v (by omega) ?_|refine z_w (by omega) ?_|refine z_x (by omega) ?_|refine z_y (by omega) ?_|refine z_z (by omega) ?_|refine z_A ?_|refine z_B ?_|refine z_C ?_|refine z_D ?_|refine z_E ?_|refine z_F ?_|refine z_G ?_|refine z_H ?_|refine z_I ?_)
  refine (cmp50 r.1 q.1 w2).mono ?_
  rintro _ _ ⟨rfl, rfl⟩
  exact ⟨rfl, rfl⟩
def cmpR (r q : Rg) : Int := cmpT r.1 q.1
theorem lt_cmp (r q : Rg) : ltOf cmpR r q = decide (r.1 < q.1) := by
  unfold ltOf cmpR cmpT
  by_cases h1 : r.1 < q.1 <;> by_cases h2 : q.1 < r.1 <;> simp [h1, h2]
theorem swo_cmp : Go.Sort.SWO (ltOf cmpR) := by
  refine ⟨fun x => ?_, fun x y z h1 h2 => ?_, fun x y z h1 h2 => ?_⟩
  · rw [lt_cmp]; simp
  · rw [lt_cmp, decide_eq_true_eq] at *; grind
  · rw [lt_cmp, decide_eq_false_iff_not] at *; grind
theorem alloc2_grow (w : World) (a b : Obj) : (w.alloc a).alloc b = Go.Sort.grow w #[a, b] := by
  unfold World.alloc Go.Sort.grow
  have e : (w.heap.push a).push b = w.heap ++ #[a, b] := by apply Array.ext'; simp
  simp only [e]
theorem sort48 (v : Value) (l : List Rg) (hl : l.length ≤ 100000) (B : Nat) (w : World) (hB : B ≤ w.heap.size) (hv : OwnG B w v l) :
    CallP Try.prog 63 #[v, .func (.func 64) #[] #[]] (fun r w' => ∃ l', l'.Perm l ∧ (l'.Pairwise fun a b => ¬ b.1 < a.1) ∧ OwnG B w' v l' ∧ Below B w w') w := by
  obtain ⟨hlen, hv'⟩ := hv.1
  rcases hv'.imp (fun h => h) (fun h => h) with ⟨rfl, h0⟩ | ⟨g, c, cur, rfl, hb, h1, h2, h3, h4⟩
  · have := List.eq_nil_of_length_eq_zero h0
    subst this
    have h := AnyF.slices_SortFunc_none sortF none 0 (.func (.func 64) #[] #[]) w
    refine ⟨h.mono fun e w' ⟨h1, h2⟩ => ⟨_, h1, [], List.Perm.refl _, List.Pairwise.nil, ?_⟩⟩
    subst h2
    exact ⟨hv, Below.refl _ _⟩
  · have hH : HoldsK rgF 2 w g 0 l.toArray := by
      intro j hj
      rw [size_flatK] at hj
      have hj : j < l.length * 2 := by simpa using hj
      rw [get_flatK _ _ _ _ (by simpa using hj)]
      obtain ⟨g', u, he, hu, hc, hf⟩ := OwnR.at (⟨hlen, .inr ⟨g, c, cur, rfl, hb, h1, h2, h3, h4⟩⟩ : OwnR 2 32 w (.slice (some ⟨g, 0, none⟩) l.length c) l.length (l.flatMap rgF)) j hj
      cases he
      rw [Nat.zero_add]
      refine ⟨?_, hf⟩
      rw [hc]
      have hi : j / 2 < l.length := by omega
      have := flatMap_at rgF 2 rgF_len l (j / 2) (j % 2) l[j / 2] (List.getElem?_eq_getElem hi) (by omega)
      rw [Nat.div_add_mod'] at this
      rw [hu] at this
      have e : l.toArray[j / 2]! = l[j / 2] := by simp [hi]
      rw [e]
      have hlt : j % 2 < (rgF l[j / 2]).length := by rw [rgF_len]; omega
      rw [List.getElem?_eq_getElem hlt] at this
      rw [getElem!_pos (rgF l[j / 2]) (j % 2) hlt]
      exact this
    have h := AnyQ.slices_SortFunc (α := Rg) sortF 2 Try.isAgg32 Try.sizeOf32 rgF rgF_len rgF_one cmpR swo_cmp 64 #[] g 0 c l.toArray w (enters_of Try.func64 (by kernel_rfl) rfl)
      (fun m os dk _ x y => (cmp49x x y _).out.mono fun e w' ⟨v, he, hv, hw⟩ => ⟨by rw [he, hv]; rfl, 0, #[.cells (rgA x) 32, .cells (rgA y) 32], hw.trans (alloc2_grow _ _ _)⟩) hH hb.lt (by simp; omega)
    refine ⟨h.mono fun e w' ⟨he, d', n, os, hP, hS, hw⟩ => ⟨_, he, d'.toList, ?_, ?_, ?_⟩⟩
    · have hp := hP.2.2
      have e1 : (d'.extract 0 l.toArray.size).toList = d'.toList := by rw [← hP.1, Array.extract_size]
      have e2 : (l.toArray.extract 0 l.toArray.size).toList = l := by rw [Array.extract_size]
      rwa [e1, e2] at hp
    · refine List.pairwise_iff_getElem.2 fun i j hi hj hij => ?_
      have hi' : i < d'.size := by simpa using hi
      have hj' : j < d'.size := by simpa using hj
      have := hS i j (Nat.zero_le _) hij (by rw [← hP.1]; exact hj')
      rw [lt_cmp, decide_eq_false_iff_not, getElem!_pos d' j hj', getElem!_pos d' i hi'] at this
      simpa using this
    · have hds : d'.size = l.length := by rw [hP.1]; simp
      have hgl := hb.lt
      have hsz : w'.heap.size = w.heap.size + os.size := by
        rw [hw]
        show ((w.heap.modify g _) ++ os).size = _
        simp
      have hat : ∀ k, k < w.heap.size → w'.heap[k]? = if g = k then (w.heap[k]?).map (onCells (putCells id 0 (flatK rgF 2 d'))) else w.heap[k]? := fun k hk => by
        rw [hw]
        show ((w.heap.modify g _) ++ os)[k]? = _
        rw [Array.getElem?_append_left (by simpa using hk), Array.getElem?_modify]
      have hblk : Blk w' g 32 (putCells id 0 (flatK rgF 2 d') cur) := by
        have := hat g hgl
        rw [if_pos rfl, hb] at this
        exact this
      have hT : Turns (fun j => j = g) w w' := ⟨by rw [hw]; rfl, by rw [hw]; rfl, by rw [hw]; rfl, by omega, fun k hk hne => by rw [hat k hk, if_neg (fun e => hne e.symm)]⟩
      have hfl : (d'.toList.flatMap rgF).length = d'.toList.length * 2 := flatMap_len rgF 2 rgF_len _
      have hdl : d'.toList.length = l.length := by simpa using hds
      refine ⟨⟨?_, hv.2⟩, hT.own (hv.2 g rfl) hB⟩
      refine ⟨hfl, .inr ⟨g, c, _, by rw [hdl], hblk, by omega, h2, by simp [putCells]; omega, ?_⟩⟩
      apply List.ext_getElem?
      intro j
      rw [List.getElem?_take]
      by_cases hj : j < d'.toList.length * 2
      · rw [if_pos hj]
        have hi : j / 2 < d'.toList.length := by omega
        have hi' : j / 2 < d'.size := by simpa using hi
        have := flatMap_at rgF 2 rgF_len d'.toList (j / 2) (j % 2) d'.toList[j / 2] (List.getElem?_eq_getElem hi) (by omega)
        rw [Nat.div_add_mod'] at this
        rw [this]
        have hjc : j < cur.size := by omega
        have hlt : j % 2 < (rgF d'.toList[j / 2]).length := by rw [rgF_len]; omega
        rw [List.getElem?_eq_getElem hlt]
        unfold putCells
        rw [Array.getElem?_toList, Array.getElem?_mapIdx, Array.getElem?_eq_getElem hjc, Option.map_some, if_pos ⟨Nat.zero_le _, by rw [size_flatK]; omega⟩, Nat.sub_zero, get_flatK _ _ _ _ (by omega), getElem!_pos d' (j / 2) hi']
        simp only [id, Option.some.injEq]
        have e : d'[j / 2] = d'.toList[j / 2] := by simp
        rw [e, getElem!_pos (rgF d'.toList[j / 2]) (j % 2) hlt]
      · rw [if_neg hj, List.getElem?_eq_none (by omega)]
end Go.Proofs.Ytcfncjejpjjhdaa.E
namespace Go.Proofs.Ytcfncjejpjjhdaa.E
open Go Go.RowKit
set_option linter.unusedSimpArgs false
set_option linter.unusedVariables false

section
variable {P : Program} {K : Value → World → Prop} {S : World → Prop} {w : World} {ty : TypeId} {x y : Operand}
theorem ysubS {n : Nat} (hn : n ≤ 1000000) (k : K (.int .i64 (n : Int)) w) : YieldP P S (binS .sub ty x y (.int .i64 ((n + 1 : Nat) : Int)) (.int .i64 1)) K w := by
  refine yi_sub64 (by omega) ?_
  have e : ((n + 1 : Nat) : Int) - 1 = (n : Int) := by omega
  rw [e]; exact k
theorem subS {n : Nat} (hn : n ≤ 1000000) (k : K (.int .i64 (n : Int)) w) : LiftP P (binS .sub ty x y (.int .i64 ((n + 1 : Nat) : Int)) (.int .i64 1)) K w := by
  refine bi_sub64 (by omega) ?_
  have e : ((n + 1 : Nat) : Int) - 1 = (n : Int) := by omega
  rw [e]; exact k
theorem addS {n : Nat} (hn : n ≤ 1000000) (k : K (.int .i64 ((n + 1 : Nat) : Int)) w) : LiftP P (binS .add ty x y (.int .i64 (n : Int)) (.int .i64 1)) K w := by
  refine bi_add64 (by omega) ?_
  have e : (n : Int) + 1 = ((n + 1 : Nat) : Int) := by omega
  rw [e]; exact k
end
/-- A row of ranges of the call's own, with known room behind: it may be appended to. -/
def OwnA (B : Nat) (w : World) (v : Value) (l : List Rg) : Prop := w.ownsRow 0 32 2 v l.length (l.flatMap rgF) ∧ Fresh B v
theorem OwnA.g {B : Nat} {w : World} {v : Value} {l : List Rg} (h : OwnA B w v l) : OwnG B w v l := ⟨OwnR.of_own h.1, h.2⟩
theorem OwnA.rd {B : Nat} {w : World} {v : Value} {l : List Rg} (h : OwnA B w v l) : RgR w [v] l := h.g.rd
theorem OwnA.kept {B : Nat} {w w' : World} {v : Value} {l : List Rg} (h : OwnA B w v l) (hb : Below w.heap.size w w') : OwnA B w' v l := ⟨ownsRow_turns h.1 (Turns.of_below (F := fun _ => False) hb) (fun _ _ h => h), h.2⟩
theorem OwnA.mono {B B' : Nat} {w : World} {v : Value} {l : List Rg} (h : OwnA B w v l) (hb : B' ≤ B) : OwnA B' w v l := ⟨h.1, fun k hk => Nat.le_trans hb (h.2 k hk)⟩
theorem OwnA.nil (B : Nat) (w : World) : OwnA B w (.slice none 0 0) [] := ⟨⟨rfl, .inl ⟨rfl, rfl⟩⟩, Fresh.nil B⟩
theorem OwnA.slice {B : Nat} {w : World} {v : Value} {l : List Rg} (h : OwnA B w v l) : ∃ A c, v = .slice A l.length c := by
  obtain ⟨A, c, e, _⟩ := h.g.1.slice
  exact ⟨A, c, e⟩
/-- One more. -/
theorem OwnA.push {K : Value → World → Prop} {cs : Array Bool} {B : Nat} {w : World} {v : Value} {l : List Rg} (h : OwnA B w v l) (hB : B ≤ w.heap.size) (hl : l.length ≤ 100000) (r : Rg)
    (k : ∀ v' w', OwnA B w' v' (l ++ [r]) → Turns (fun j => v.ownBlock = some j) w w' → Below B w w' → K v' w') :
    LiftP Try.prog (Instr.buildSlice 22 1 #[(0, rgV r)]) (fun u w => NextP Try.prog (builtin .append #[22, 22] 22 cs #[v, u]) K w) w := by
  refine apOne (us := rgF r) und26 inf23 (by rfl) (by decide) h.1 (rgF_len _) (rgF_one _) (by omega) (by omega) (by kernel_rfl) ?_
  intro v2 w2 ho2 hbl2 hT2
  have e : (l ++ [r]).flatMap rgF = l.flatMap rgF ++ rgF r := by simp
  refine k v2 w2 ⟨by rw [e, List.length_append]; exact ho2, h.2.one hB hbl2⟩ hT2 (hT2.fresh h.2 hB)
theorem ownsRow_set {s : Nat} {e : TypeId} {w : World} {g n c : Nat} {xs : List Value} (h : w.ownsRow 0 e s (.slice (some ⟨g, 0, none⟩) n c) n xs) (j : Nat) (u : Value) : (w.setCell ⟨g, j, none⟩ u).ownsRow 0 e s (.slice (some ⟨g, 0, none⟩) n c) n (xs.set j u) := by
  obtain ⟨hl, h⟩ := h
  refine ⟨by simpa using hl, ?_⟩
  rcases h with ⟨h, _⟩ | ⟨g', c', cur, he, hg, hb, h1, h2, h3, h4⟩
  · cases h
  · cases he
    refine .inr ⟨g, c, cur.setIfInBounds j u, rfl, hg, Blk.set_ hb j u, h1, h2, by simpa using h3, ?_⟩
    rw [Array.toList_setIfInBounds, List.take_set, h4]
theorem flat_set (ys : List Rg) (q : Rg) (u : Txt) : ((ys ++ [q]).flatMap rgF).set (ys.length * 2 + 1) (tS u) = (ys ++ [(q.1, u)]).flatMap rgF := by
  have h := flatMap_len rgF 2 rgF_len ys
  rw [List.flatMap_append, List.flatMap_append, List.set_append, if_neg (by omega), h, show ys.length * 2 + 1 - ys.length * 2 = 1 by omega]
  rfl
theorem OwnA.last {B : Nat} {w : World} {v : Value} {ys : List Rg} {q : Rg} (h : OwnA B w v (ys ++ [q])) :
    ∃ g c, v = .slice (some ⟨g, 0, none⟩) (ys.length + 1) c ∧ w.cell? ⟨g, ys.length * 2 + 0, none⟩ = some (tS q.1) ∧ w.cell? ⟨g, ys.length * 2 + 1, none⟩ = some (tS q.2) ∧ B ≤ g ∧ g < w.heap.size ∧ w.frozen? ⟨g, ys.length * 2 + 1, none⟩ = false := by
  obtain ⟨g, c, rfl, hc⟩ := rowAt rgF_len h.g.1 ys.length (by simp) (by decide)
  have e : (ys ++ [q])[ys.length]'(by simp) = q := by simp
  rw [e] at hc
  have hlt := ownsRow_lt h.1 (k := g) rfl
  obtain ⟨g', u, he, _, _, hf⟩ := h.g.1.at (ys.length * 2 + 1) (by simp; omega)
  cases he
  exact ⟨g, c, by simp, hc 0 _ rfl, hc 1 _ rfl, h.2 g rfl, hlt, hf⟩
/-- The last one's high end set. -/
theorem OwnA.setHi {B : Nat} {w : World} {g n c : Nat} {ys : List Rg} {q : Rg} (h : OwnA B w (.slice (some ⟨g, 0, none⟩) n c) (ys ++ [q])) (hB : B ≤ w.heap.size) (u : Txt) :
    OwnA B (w.setCell ⟨g, ys.length * 2 + 1, none⟩ (tS u)) (.slice (some ⟨g, 0, none⟩) n c) (ys ++ [(q.1, u)]) ∧ Below B w (w.setCell ⟨g, ys.length * 2 + 1, none⟩ (tS u)) := by
  have hn : (ys ++ [(q.1, u)]).length = (ys ++ [q]).length := by simp
  obtain ⟨A, c', he⟩ := h.slice
  cases he
  have := ownsRow_set h.1 (ys.length * 2 + 1) (tS u)
  rw [flat_set] at this
  refine ⟨⟨by rw [hn]; exact this, h.2⟩, ?_⟩
  have hT := Turns.setCell (F := fun j => j = g) (p := ⟨g, ys.length * 2 + 1, none⟩) (Turns.refl _ w) (.inl rfl) (tS u)
  exact hT.own (h.2 g rfl) hB
theorem mergeStep_len (out : List Rg) (r : Rg) : (mergeStep out r).length ≤ out.length + 1 := by
  unfold mergeStep
  split
  · simp
  · split
    · split
      · simp
      · omega
    · simp
theorem least18 (v : Value) (l : List Rg) (hl : l.length ≤ 100000) (w : World) (hv : RgR w [v] l) :
    CallP Try.prog 47 #[v] (fun r w' => ∃ out, IsLeast l out ∧ out.length ≤ l.length ∧ OwnA w.heap.size w' r out ∧ Below w.heap.size w w') w := by
  refine ⟨S47.calls _ _ _ ?_⟩
  unfold S47
  refine (clone47 v l hl w hv).mono ?_
  rintro v1 w1 ⟨hv1, hb1⟩
  refine (delete46 v1 l w.heap.size w1 hb1.size hv1).mono ?_
  rintro v2 w2 ⟨hv2, hb2⟩
  have hb2' := hb1.trans hb2
  have hfl : (l.filter fun x => decide (¬ emptyR x)).length ≤ l.length := List.length_filter_le _ _
  refine (sort48 v2 _ (by omega) w.heap.size w2 hb2'.size hv2).mono ?_
  rintro _ w3 ⟨m, hperm, hsort, hv3, hb3⟩
  have hb3' := hb2'.trans hb3
  have hlen := hperm.length_eq
  have hleast := least_of hperm hsort
  have hrow := hv3.rd
  obtain ⟨A, c, rfl, hc, hmx⟩ := hv3.1.slice
  have hmx : c ≤ 9223372036854775807 := hmx
  refine ln und26 ?_
  have hs3 := hb3'.size
  refine LoopP.inv2 (fun ov iv w' => ∃ k : Nat, k ≤ m.length ∧ iv = .int .i64 k ∧ ((m.take k).foldl mergeStep []).length ≤ k ∧ OwnA w3.heap.size w' ov ((m.take k).foldl mergeStep []) ∧ Below w3.heap.size w3 w') (fun _ iv _ => m.length - (intOf iv).toNat)
    ⟨0, Nat.zero_le _, rfl, by simp, OwnA.nil _ _, Below.refl _ _⟩ ?_
  rintro ov _ w4 ⟨k, hk, rfl, hol, hov, hb4⟩ J hJ
  dsimp only [List.headD_cons, List.tail_cons]
  refine bi_lss_c (fun h => ?_) (fun h => ?_)
  · have hk' : k < m.length := by omega
    obtain ⟨a, rfl, hcell⟩ := (hrow.kept hb4).at k hk'
    have hfold : (m.take (k + 1)).foldl mergeStep [] = mergeStep ((m.take k).foldl mergeStep []) m[k] := by
      rw [List.take_succ_eq_append_getElem hk', List.foldl_append]; rfl
    generalize (m.take k).foldl mergeStep [] = out at *
    have hmlen := mergeStep_len out m[k]
    (repeat with_reducible first|refine z_a ?_|refine z_b ?_|refine z_c ?_|refine z_d ?_|refine z_e ?_|refine z_f ?_|refine z_g ?_|refine z_h ?_|refine z_i ?_|refine z_j ?_|refine z_k ?_|refine z_l ?_|refine z_m (by omega) ?_|refine z_n (by omega) ?_|refine z_o (by omega) ?_|refine z_p (by omega) ?_|refine z_q (by omega) ?_|refine z_r (by omega) ?_|refine z_s (by omega) ?_|refine z_t (by omega) ?_|refine z_u (by omega) ?_|refine z_v (by omega) ?_|refine z_w (by omega) ?_|refine z_x (by omega) ?_|refine z_y (by omega) ?_|refine z_z (by omega) ?_|refine z_A ?_|refine z_B ?_|refine z_C ?_|refine z_D ?_|refine z_E ?_|refine z_F ?_|refine z_G ?_|refine z_H ?_|refine z_I ?_)
    refine JoinP.cut (fun xs w' => ∃ ov', xs = [ov'] ∧ OwnA w3.heap.size w' ov' (mergeStep out m[k]) ∧ Below w3.heap.size w3 w') (fun J1 hJ1 => ?_) (fun xs w' hI => ?_)
    · (repeat with_reducible first | refine ixN und26 sz23 k hk' ?_|refine z_a ?_|refine z_b ?_|refine z_c ?_|refine z_d ?_|refine z_e ?_|refine z_f ?_|refine z_g ?_|refine z_h ?_|refine z_i ?_|refine z_j ?_|refine z_k ?_|refine z_l ?_|refine z_m (by omega) ?_|refine z_n (by omega) ?_|refine z_o (by omega) ?_|refine z_p (by omega) ?_|refine z_q (by omega) ?_|refine z_r (by omega) ?_|refine z_s (by omega) ?_|refine z_t (by omega) ?_|refine z_u (by omega) ?_|refine z_v (by omega) ?_|refine z_w (by omega) ?_|refine z_x (by omega) ?_|refine z_y (by omega) ?_|refine z_z (by omega) ?_|refine z_A ?_|refine z_B ?_|refine z_C ?_|refine z_D ?_|refine z_E ?_|refine z_F ?_|refine z_G ?_|refine z_H ?_|refine z_I ?_)
      refine ldR (us := rgF m[k]) agg23 hcell (by rw [sz23]; rfl) ?_
      generalize m[k] = r at *
      refine alB z23 ?_
      intro gv w5 hgv hV5 h5
      refine stB hV5 (by rw [sz23]; rfl) (by rfl) (cells := rgA r) (rgA_one _) ?_
      intro w6 hV6 hT6
      have hs4 := hb4.size
      have h6 : Below w4.heap.size w4 w6 := below_own h5 hT6 (by omega)
      have hb6 : Below w3.heap.size w3 w6 := below_then hb4 h6
      have ho6 := hov.kept h6
      have hs6 := h6.size
      have hdr : Below w6.heap.size w6 w6.drew := (Below.refl _ _).drew
      rcases List.eq_nil_or_concat out with rfl | ⟨ys, q, rfl⟩
      · obtain ⟨A', c', rfl⟩ := ho6.slice
        refine ln und26 ?_
        refine draw (Below w6.heap.size w6) hdr ?_
        have e0 : ([] : List Rg).length = 0 := rfl
        rw [e0]
        (repeat with_reducible first|refine z_J ?_|refine z_a ?_|refine z_b ?_|refine z_c ?_|refine z_d ?_|refine z_e ?_|refine z_f ?_|refine z_g ?_|refine z_h ?_|refine z_i ?_|refine z_j ?_|refine z_k ?_|refine z_l ?_|refine z_K (by omega) ?_|refine z_L (by omega) ?_|refine z_M (by omega) ?_|refine z_N (by omega) ?_|refine z_O (by omega) ?_|refine z_P (by omega) ?_|refine z_Q (by omega) ?_|refine z_R (by omega) ?_|refine z_S (by omega) ?_|refine z_T (by omega) ?_|refine z_U (by omega) ?_|refine z_V (by omega) ?_|refine z_W (by omega) ?_|refine z_X (by omega) ?_|refine z_Y ?_|refine z_Z ?_|refine z_a1 ?_|refine z_b1 ?_|refine z_c1 ?_|refine z_d1 ?_|refine z_e1 ?_|refine z_f1 ?_|refine z_g1 ?_)
        refine ldA agg23 (hV6.below' hdr) (by rw [sz23]; rfl) ?_
        refine (ho6.kept hdr).push (by have := hdr.size; omega) (by simp) r ?_
        intro v7 w7 ho7 hT7 hb7
        exact hJ1 _ _ ⟨_, rfl, ho7, (below_then hb6 hdr).trans hb7⟩
      · rw [List.concat_eq_append] at *
        have hl1 : (ys ++ [q]).length = ys.length + 1 := by simp
        have hgl? : (ys ++ [q]).getLast? = some q := by simp
        obtain ⟨g, c2, rfl, _, c1, hgB, hgl, _⟩ := ho6.last
        refine ln und26 ?_
        refine draw (Below w6.heap.size w6) hdr ?_
        have y1 : ∀ w', Below w6.heap.size w6 w' → w'.cell? ⟨g, ys.length * 2 + 1, none⟩ = some (tS q.2) := fun w' hw => by rw [hw.cell (World.block_lt_of_cell? _ _ c1), c1]
        have v0 : ∀ w', Below w6.heap.size w6 w' → w'.cell? ⟨gv, 0, none⟩ = some (tS r.1) := fun w' hw => (hV6.below' hw).cell 0
        have v1 : ∀ w', Below w6.heap.size w6 w' → w'.cell? ⟨gv, 1, none⟩ = some (tS r.2) := fun w' hw => (hV6.below' hw).cell 1
        have hys : ys.length ≤ 1000000 := by omega
        generalize w6.drew = w7 at *
        have hb7 := below_then hb6 hdr
        have hs7 := hdr.size
        have ho7 := ho6.kept hdr
        (repeat with_reducible first | refine ysubS hys ?_| refine yixG und26 sz23 ys.length (Nat.lt_succ_self _) ?_| refine yfdG g1 (by decide) ?_| refine yl1 one9 y1 ?_|refine z_J ?_|refine z_a ?_|refine z_b ?_|refine z_c ?_|refine z_d ?_|refine z_e ?_|refine z_f ?_|refine z_g ?_|refine z_h ?_|refine z_i ?_|refine z_j ?_|refine z_k ?_|refine z_l ?_|refine z_K (by omega) ?_|refine z_L (by omega) ?_|refine z_M (by omega) ?_|refine z_N (by omega) ?_|refine z_O (by omega) ?_|refine z_P (by omega) ?_|refine z_Q (by omega) ?_|refine z_R (by omega) ?_|refine z_S (by omega) ?_|refine z_T (by omega) ?_|refine z_U (by omega) ?_|refine z_V (by omega) ?_|refine z_W (by omega) ?_|refine z_X (by omega) ?_|refine z_Y ?_|refine z_Z ?_|refine z_a1 ?_|refine z_b1 ?_|refine z_c1 ?_|refine z_d1 ?_|refine z_e1 ?_|refine z_f1 ?_|refine z_g1 ?_)
        refine ty_eql0_c (fun h1 => ?a) (fun h1 => ?b)
        case' b =>
          (repeat with_reducible first | refine ysubS hys ?_| refine yixG und26 sz23 ys.length (Nat.lt_succ_self _) ?_| refine yfdG g1 (by decide) ?_| refine yfd g0 (by decide) ?_| refine yl1 one9 y1 ?_| refine yl1 one9 v0 ?_|refine z_J ?_|refine z_a ?_|refine z_b ?_|refine z_c ?_|refine z_d ?_|refine z_e ?_|refine z_f ?_|refine z_g ?_|refine z_h ?_|refine z_i ?_|refine z_j ?_|refine z_k ?_|refine z_l ?_|refine z_K (by omega) ?_|refine z_L (by omega) ?_|refine z_M (by omega) ?_|refine z_N (by omega) ?_|refine z_O (by omega) ?_|refine z_P (by omega) ?_|refine z_Q (by omega) ?_|refine z_R (by omega) ?_|refine z_S (by omega) ?_|refine z_T (by omega) ?_|refine z_U (by omega) ?_|refine z_V (by omega) ?_|refine z_W (by omega) ?_|refine z_X (by omega) ?_|refine z_Y ?_|refine z_Z ?_|refine z_a1 ?_|refine z_b1 ?_|refine z_c1 ?_|refine z_d1 ?_|refine z_e1 ?_|refine z_f1 ?_|refine z_g1 ?_)
          refine ty_leq_c (fun h2 => ?b1) (fun h2 => ?b2)
        case b2 =>
          (repeat with_reducible first|refine z_J ?_|refine z_a ?_|refine z_b ?_|refine z_c ?_|refine z_d ?_|refine z_e ?_|refine z_f ?_|refine z_g ?_|refine z_h ?_|refine z_i ?_|refine z_j ?_|refine z_k ?_|refine z_l ?_|refine z_K (by omega) ?_|refine z_L (by omega) ?_|refine z_M (by omega) ?_|refine z_N (by omega) ?_|refine z_O (by omega) ?_|refine z_P (by omega) ?_|refine z_Q (by omega) ?_|refine z_R (by omega) ?_|refine z_S (by omega) ?_|refine z_T (by omega) ?_|refine z_U (by omega) ?_|refine z_V (by omega) ?_|refine z_W (by omega) ?_|refine z_X (by omega) ?_|refine z_Y ?_|refine z_Z ?_|refine z_a1 ?_|refine z_b1 ?_|refine z_c1 ?_|refine z_d1 ?_|refine z_e1 ?_|refine z_f1 ?_|refine z_g1 ?_)
          refine ldA agg23 (hV6.below' hdr) (by rw [sz23]; rfl) ?_
          refine ho7.push (by omega) (by omega) r ?_
          intro v8 w8 ho8 hT8 hb8
          refine hJ1 _ _ ⟨_, rfl, ?_, hb7.trans hb8⟩
          rw [mergeStep, hgl?]
          simp only
          rw [if_neg (fun e => e.elim h1 h2)]
          exact ho8
        case' a => have hcon : q.2 = [] ∨ ¬ q.2 < r.1 := .inl h1
        case' b1 => have hcon : q.2 = [] ∨ ¬ q.2 < r.1 := .inr h2
        all_goals
          (repeat with_reducible first|refine z_J ?_|refine z_a ?_|refine z_b ?_|refine z_c ?_|refine z_d ?_|refine z_e ?_|refine z_f ?_|refine z_g ?_|refine z_h ?_|refine z_i ?_|refine z_j ?_|refine z_k ?_|refine z_l ?_|refine z_K (by omega) ?_|refine z_L (by omega) ?_|refine z_M (by omega) ?_|refine z_N (by omega) ?_|refine z_O (by omega) ?_|refine z_P (by omega) ?_|refine z_Q (by omega) ?_|refine z_R (by omega) ?_|refine z_S (by omega) ?_|refine z_T (by omega) ?_|refine z_U (by omega) ?_|refine z_V (by omega) ?_|refine z_W (by omega) ?_|refine z_X (by omega) ?_|refine z_Y ?_|refine z_Z ?_|refine z_a1 ?_|refine z_b1 ?_|refine z_c1 ?_|refine z_d1 ?_|refine z_e1 ?_|refine z_f1 ?_|refine z_g1 ?_)
          refine JoinP.cut (fun xs w' => xs = [] ∧ OwnA w3.heap.size w' (.slice (some ⟨g, 0, none⟩) (ys.length + 1) c2) (mergeStep (ys ++ [q]) r) ∧ Below w3.heap.size w3 w') (fun J2 hJ2 => ?_) (fun xs w' hI => ?_)
          · have hdr2 : Below w7.heap.size w7 w7.drew := (Below.refl _ _).drew
            have hdr3 := below_then hdr hdr2
            have hb8 := below_then hb7 hdr2
            have ho8 := ho7.kept hdr2
            have hs8 := hdr2.size
            refine draw (Below w6.heap.size w6) hdr3 ?_
            generalize w7.drew = w8 at *
            (repeat with_reducible first | refine ysubS hys ?_| refine yixG und26 sz23 ys.length (Nat.lt_succ_self _) ?_| refine yfdG g1 (by decide) ?_| refine yl1 one9 y1 ?_|refine z_J ?_|refine z_a ?_|refine z_b ?_|refine z_c ?_|refine z_d ?_|refine z_e ?_|refine z_f ?_|refine z_g ?_|refine z_h ?_|refine z_i ?_|refine z_j ?_|refine z_k ?_|refine z_l ?_|refine z_K (by omega) ?_|refine z_L (by omega) ?_|refine z_M (by omega) ?_|refine z_N (by omega) ?_|refine z_O (by omega) ?_|refine z_P (by omega) ?_|refine z_Q (by omega) ?_|refine z_R (by omega) ?_|refine z_S (by omega) ?_|refine z_T (by omega) ?_|refine z_U (by omega) ?_|refine z_V (by omega) ?_|refine z_W (by omega) ?_|refine z_X (by omega) ?_|refine z_Y ?_|refine z_Z ?_|refine z_a1 ?_|refine z_b1 ?_|refine z_c1 ?_|refine z_d1 ?_|refine z_e1 ?_|refine z_f1 ?_|refine z_g1 ?_)
            refine ty_neq0_c (fun h3 => ?_) (fun h3 => ?_)
            · (repeat with_reducible first | refine yfd g1 (by decide) ?_| refine yl1 one9 v1 ?_|refine z_J ?_|refine z_a ?_|refine z_b ?_|refine z_c ?_|refine z_d ?_|refine z_e ?_|refine z_f ?_|refine z_g ?_|refine z_h ?_|refine z_i ?_|refine z_j ?_|refine z_k ?_|refine z_l ?_|refine z_K (by omega) ?_|refine z_L (by omega) ?_|refine z_M (by omega) ?_|refine z_N (by omega) ?_|refine z_O (by omega) ?_|refine z_P (by omega) ?_|refine z_Q (by omega) ?_|refine z_R (by omega) ?_|refine z_S (by omega) ?_|refine z_T (by omega) ?_|refine z_U (by omega) ?_|refine z_V (by omega) ?_|refine z_W (by omega) ?_|refine z_X (by omega) ?_|refine z_Y ?_|refine z_Z ?_|refine z_a1 ?_|refine z_b1 ?_|refine z_c1 ?_|refine z_d1 ?_|refine z_e1 ?_|refine z_f1 ?_|refine z_g1 ?_)
              refine ty_eql0_c (fun h4 => ?_) (fun h4 => ?_)
              · have hset : q.2 ≠ [] ∧ (r.2 = [] ∨ q.2 < r.2) := ⟨h3, .inl h4⟩
                (repeat with_reducible first|refine z_J ?_|refine z_a ?_|refine z_b ?_|refine z_c ?_|refine z_d ?_|refine z_e ?_|refine z_f ?_|refine z_g ?_|refine z_h ?_|refine z_i ?_|refine z_j ?_|refine z_k ?_|refine z_l ?_|refine z_K (by omega) ?_|refine z_L (by omega) ?_|refine z_M (by omega) ?_|refine z_N (by omega) ?_|refine z_O (by omega) ?_|refine z_P (by omega) ?_|refine z_Q (by omega) ?_|refine z_R (by omega) ?_|refine z_S (by omega) ?_|refine z_T (by omega) ?_|refine z_U (by omega) ?_|refine z_V (by omega) ?_|refine z_W (by omega) ?_|refine z_X (by omega) ?_|refine z_Y ?_|refine z_Z ?_|refine z_a1 ?_|refine z_b1 ?_|refine z_c1 ?_|refine z_d1 ?_|refine z_e1 ?_|refine z_f1 ?_|refine z_g1 ?_)
                (repeat with_reducible first | refine subS hys ?_| refine fd g1 (by decide) ?_| refine ld one9 (v1 _ hdr3) ?_| refine ixG und26 sz23 ys.length (Nat.lt_succ_self _) ?_| refine fdG g1 (by decide) ?_|refine z_a ?_|refine z_b ?_|refine z_c ?_|refine z_d ?_|refine z_e ?_|refine z_f ?_|refine z_g ?_|refine z_h ?_|refine z_i ?_|refine z_j ?_|refine z_k ?_|refine z_l ?_|refine z_m (by omega) ?_|refine z_n (by omega) ?_|refine z_o (by omega) ?_|refine z_p (by omega) ?_|refine z_q (by omega) ?_|refine z_r (by omega) ?_|refine z_s (by omega) ?_|refine z_t (by omega) ?_|refine z_u (by omega) ?_|refine z_v (by omega) ?_|refine z_w (by omega) ?_|refine z_x (by omega) ?_|refine z_y (by omega) ?_|refine z_z (by omega) ?_|refine z_A ?_|refine z_B ?_|refine z_C ?_|refine z_D ?_|refine z_E ?_|refine z_F ?_|refine z_G ?_|refine z_H ?_|refine z_I ?_)
                obtain ⟨g', c', he, _, c1', _, _, hf'⟩ := ho8.last
                cases he
                refine st sz9 (by rfl) (by rw [c1']; rfl) hf' ?_
                obtain ⟨hset1, hset2⟩ := ho8.setHi (by omega) r.2
                refine hJ2 _ _ ⟨rfl, ?_, hb8.trans hset2⟩
                rw [mergeStep, hgl?]
                simp only
                rw [if_pos hcon, if_pos hset, List.dropLast_concat]
                exact hset1
              · (repeat with_reducible first | refine ysubS hys ?_| refine yixG und26 sz23 ys.length (Nat.lt_succ_self _) ?_| refine yfdG g1 (by decide) ?_| refine yfd g1 (by decide) ?_| refine yl1 one9 y1 ?_| refine yl1 one9 v1 ?_|refine z_J ?_|refine z_a ?_|refine z_b ?_|refine z_c ?_|refine z_d ?_|refine z_e ?_|refine z_f ?_|refine z_g ?_|refine z_h ?_|refine z_i ?_|refine z_j ?_|refine z_k ?_|refine z_l ?_|refine z_K (by omega) ?_|refine z_L (by omega) ?_|refine z_M (by omega) ?_|refine z_N (by omega) ?_|refine z_O (by omega) ?_|refine z_P (by omega) ?_|refine z_Q (by omega) ?_|refine z_R (by omega) ?_|refine z_S (by omega) ?_|refine z_T (by omega) ?_|refine z_U (by omega) ?_|refine z_V (by omega) ?_|refine z_W (by omega) ?_|refine z_X (by omega) ?_|refine z_Y ?_|refine z_Z ?_|refine z_a1 ?_|refine z_b1 ?_|refine z_c1 ?_|refine z_d1 ?_|refine z_e1 ?_|refine z_f1 ?_|refine z_g1 ?_)
                refine ty_gtr_c (fun h5 => ?_) (fun h5 => ?_)
                · have hset : q.2 ≠ [] ∧ (r.2 = [] ∨ q.2 < r.2) := ⟨h3, .inr h5⟩
                  (repeat with_reducible first|refine z_J ?_|refine z_a ?_|refine z_b ?_|refine z_c ?_|refine z_d ?_|refine z_e ?_|refine z_f ?_|refine z_g ?_|refine z_h ?_|refine z_i ?_|refine z_j ?_|refine z_k ?_|refine z_l ?_|refine z_K (by omega) ?_|refine z_L (by omega) ?_|refine z_M (by omega) ?_|refine z_N (by omega) ?_|refine z_O (by omega) ?_|refine z_P (by omega) ?_|refine z_Q (by omega) ?_|refine z_R (by omega) ?_|refine z_S (by omega) ?_|refine z_T (by omega) ?_|refine z_U (by omega) ?_|refine z_V (by omega) ?_|refine z_W (by omega) ?_|refine z_X (by omega) ?_|refine z_Y ?_|refine z_Z ?_|refine z_a1 ?_|refine z_b1 ?_|refine z_c1 ?_|refine z_d1 ?_|refine z_e1 ?_|refine z_f1 ?_|refine z_g1 ?_)
                  (repeat with_reducible first | refine subS hys ?_| refine fd g1 (by decide) ?_| refine ld one9 (v1 _ hdr3) ?_| refine ixG und26 sz23 ys.length (Nat.lt_succ_self _) ?_| refine fdG g1 (by decide) ?_|refine z_a ?_|refine z_b ?_|refine z_c ?_|refine z_d ?_|refine z_e ?_|refine z_f ?_|refine z_g ?_|refine z_h ?_|refine z_i ?_|refine z_j ?_|refine z_k ?_|refine z_l ?_|refine z_m (by omega) ?_|refine z_n (by omega) ?_|refine z_o (by omega) ?_|refine z_p (by omega) ?_|refine z_q (by omega) ?_|refine z_r (by omega) ?_|refine z_s (by omega) ?_|refine z_t (by omega) ?_|refine z_u (by omega) ?_|refine z_v (by omega) ?_|refine z_w (by omega) ?_|refine z_x (by omega) ?_|refine z_y (by omega) ?_|refine z_z (by omega) ?_|refine z_A ?_|refine z_B ?_|refine z_C ?_|refine z_D ?_|refine z_E ?_|refine z_F ?_|refine z_G ?_|refine z_H ?_|refine z_I ?_)
                  obtain ⟨g', c', he, _, c1', _, _, hf'⟩ := ho8.last
                  cases he
                  refine st sz9 (by rfl) (by rw [c1']; rfl) hf' ?_
                  obtain ⟨hset1, hset2⟩ := ho8.setHi (by omega) r.2
                  refine hJ2 _ _ ⟨rfl, ?_, hb8.trans hset2⟩
                  rw [mergeStep, hgl?]
                  simp only
                  rw [if_pos hcon, if_pos hset, List.dropLast_concat]
                  exact hset1
                · have hno : ¬ (q.2 ≠ [] ∧ (r.2 = [] ∨ q.2 < r.2)) := fun e => e.2.elim h4 h5
                  (repeat with_reducible first|refine z_J ?_|refine z_a ?_|refine z_b ?_|refine z_c ?_|refine z_d ?_|refine z_e ?_|refine z_f ?_|refine z_g ?_|refine z_h ?_|refine z_i ?_|refine z_j ?_|refine z_k ?_|refine z_l ?_|refine z_K (by omega) ?_|refine z_L (by omega) ?_|refine z_M (by omega) ?_|refine z_N (by omega) ?_|refine z_O (by omega) ?_|refine z_P (by omega) ?_|refine z_Q (by omega) ?_|refine z_R (by omega) ?_|refine z_S (by omega) ?_|refine z_T (by omega) ?_|refine z_U (by omega) ?_|refine z_V (by omega) ?_|refine z_W (by omega) ?_|refine z_X (by omega) ?_|refine z_Y ?_|refine z_Z ?_|refine z_a1 ?_|refine z_b1 ?_|refine z_c1 ?_|refine z_d1 ?_|refine z_e1 ?_|refine z_f1 ?_|refine z_g1 ?_)
                  refine hJ2 _ _ ⟨rfl, ?_, hb8⟩
                  rw [mergeStep, hgl?]
                  simp only
                  rw [if_pos hcon, if_neg hno]
                  exact ho8
            · have hno : ¬ (q.2 ≠ [] ∧ (r.2 = [] ∨ q.2 < r.2)) := fun e => h3 e.1
              (repeat with_reducible first|refine z_J ?_|refine z_a ?_|refine z_b ?_|refine z_c ?_|refine z_d ?_|refine z_e ?_|refine z_f ?_|refine z_g ?_|refine z_h ?_|refine z_i ?_|refine z_j ?_|refine z_k ?_|refine z_l ?_|refine z_K (by omega) ?_|refine z_L (by omega) ?_|refine z_M (by omega) ?_|refine z_N (by omega) ?_|refine z_O (by omega) ?_|refine z_P (by omega) ?_|refine z_Q (by omega) ?_|refine z_R (by omega) ?_|refine z_S (by omega) ?_|refine z_T (by omega) ?_|refine z_U (by omega) ?_|refine z_V (by omega) ?_|refine z_W (by omega) ?_|refine z_X (by omega) ?_|refine z_Y ?_|refine z_Z ?_|refine z_a1 ?_|refine z_b1 ?_|refine z_c1 ?_|refine z_d1 ?_|refine z_e1 ?_|refine z_f1 ?_|refine z_g1 ?_)
              refine hJ2 _ _ ⟨rfl, ?_, hb8⟩
              rw [mergeStep, hgl?]
              simp only
              rw [if_pos hcon, if_neg hno]
              exact ho8
          · obtain ⟨rfl, ho', hb'⟩ := hI
            exact hJ1 _ _ ⟨_, rfl, ho', hb'⟩
    · obtain ⟨ov', rfl, ho', hb'⟩ := hI
      dsimp only [List.headD_cons, List.tail_cons]
      (repeat with_reducible first|refine z_a ?_|refine z_b ?_|refine z_c ?_|refine z_d ?_|refine z_e ?_|refine z_f ?_|refine z_g ?_|refine z_h ?_|refine z_i ?_|refine z_j ?_|refine z_k ?_|refine z_l ?_|refine z_m (by omega) ?_|refine z_n (by omega) ?_|refine z_o (by omega) ?_|refine z_p (by omega) ?_|refine z_q (by omega) ?_|refine z_r (by omega) ?_|refine z_s (by omega) ?_|refine z_t (by omega) ?_|refine z_u (by omega) ?_|refine z_v (by omega) ?_|refine z_w (by omega) ?_|refine z_x (by omega) ?_|refine z_y (by omega) ?_|refine z_z (by omega) ?_|refine z_A ?_|refine z_B ?_|refine z_C ?_|refine z_D ?_|refine z_E ?_|refine z_F ?_|refine z_G ?_|refine z_H ?_|refine z_I ?_)
      exact hJ _ _ _ ⟨k + 1, by omega, by simp, by rw [hfold]; omega, by rw [hfold]; exact ho', hb'⟩ (by simp [intOf]; omega)
  · have : k = m.length := by omega
    subst this
    rw [List.take_length] at hov hol
    (repeat with_reducible first|refine z_a ?_|refine z_b ?_|refine z_c ?_|refine z_d ?_|refine z_e ?_|refine z_f ?_|refine z_g ?_|refine z_h ?_|refine z_i ?_|refine z_j ?_|refine z_k ?_|refine z_l ?_|refine z_m (by omega) ?_|refine z_n (by omega) ?_|refine z_o (by omega) ?_|refine z_p (by omega) ?_|refine z_q (by omega) ?_|refine z_r (by omega) ?_|refine z_s (by omega) ?_|refine z_t (by omega) ?_|refine z_u (by omega) ?_|refine z_v (by omega) ?_|refine z_w (by omega) ?_|refine z_x (by omega) ?_|refine z_y (by omega) ?_|refine z_z (by omega) ?_|refine z_A ?_|refine z_B ?_|refine z_C ?_|refine z_D ?_|refine z_E ?_|refine z_F ?_|refine z_G ?_|refine z_H ?_|refine z_I ?_)
    exact ⟨_, hleast, by omega, hov.mono hs3, hb3'.trans (hb4.mono hs3)⟩
end Go.Proofs.Ytcfncjejpjjhdaa.E
namespace Go.Proofs.Ytcfncjejpjjhdaa.E
open Go Go.RowKit
set_option linter.unusedSimpArgs false
set_option linter.unusedVariables false

def tA (x r : Rg) : List Rg := if r.1 ≠ [] then (meetP x ([], r.1)).toList else []
def tB' (x r : Rg) : List Rg := if r.2 ≠ [] then (meetP x (r.2, [])).toList else []
theorem left_two (x r : Rg) : leftP x r = tA x r ++ tB' x r := rfl
theorem tA_len (x r : Rg) : (tA x r).length ≤ 1 := by
  unfold tA
  split
  · cases meetP x ([], r.1) <;> simp
  · simp
theorem tB_len (x r : Rg) : (tB' x r).length ≤ 1 := by
  unfold tB'
  split
  · cases meetP x (r.2, []) <;> simp
  · simp
theorem left_len (x r : Rg) : (leftP x r).length ≤ 2 := by
  have h1 := tA_len x r
  have h2 := tB_len x r
  rw [left_two, List.length_append]; omega
theorem lefts_len (r : Rg) : ∀ l : List Rg, (l.flatMap fun x => leftP x r).length ≤ 2 * l.length
  | [] => by simp
  | x :: l => by
    have h1 := left_len x r
    have h2 := lefts_len r l
    rw [List.flatMap_cons, List.length_append, List.length_cons]; omega
/-- What is in a set and not in a range. -/
def IsMinus (l : List Rg) (r : Rg) (out : List Rg) : Prop := Canon out ∧ ∀ s, inL out s ↔ inL l s ∧ ¬ hasR r s
theorem minus19 (v : Value) (l : List Rg) (r : Rg) (hl : l.length ≤ 1000) (w : World) (hv : RgR w [v] l) :
    CallP Try.prog 30 #[v, rgV r] (fun u w' => ∃ out, IsMinus l r out ∧ out.length ≤ 2 * l.length ∧ OwnA w.heap.size w' u out ∧ Below w.heap.size w w') w := by
  refine ⟨S30.calls _ _ _ _ ?_⟩
  unfold S30
  refine bxB ?_
  intro gr w1 hgr hR1 hb1
  refine ldA agg23 hR1 (by rw [sz23]; rfl) ?_
  refine (empty14 r w1).mono ?_
  rintro _ w2 ⟨rfl, h2⟩
  have hb2 := below_then hb1 h2
  have hs2 := hb2.size
  by_cases he : emptyR r
  · rw [decide_eq_true he]
    (repeat with_reducible first|refine z_a ?_|refine z_b ?_|refine z_c ?_|refine z_d ?_|refine z_e ?_|refine z_f ?_|refine z_g ?_|refine z_h ?_|refine z_i ?_|refine z_j ?_|refine z_k ?_|refine z_l ?_|refine z_m (by omega) ?_|refine z_n (by omega) ?_|refine z_o (by omega) ?_|refine z_p (by omega) ?_|refine z_q (by omega) ?_|refine z_r (by omega) ?_|refine z_s (by omega) ?_|refine z_t (by omega) ?_|refine z_u (by omega) ?_|refine z_v (by omega) ?_|refine z_w (by omega) ?_|refine z_x (by omega) ?_|refine z_y (by omega) ?_|refine z_z (by omega) ?_|refine z_A ?_|refine z_B ?_|refine z_C ?_|refine z_D ?_|refine z_E ?_|refine z_F ?_|refine z_G ?_|refine z_H ?_|refine z_I ?_)
    refine (least18 v l (by omega) w2 (hv.kept hb2)).mono ?_
    rintro u w3 ⟨out, h1, hlen, ho, h3⟩
    exact ⟨out, ⟨h1.1, fun s => (h1.2 s).trans ⟨fun h => ⟨h, has_empty he s⟩, fun h => h.1⟩⟩, by omega, ho.mono hs2, below_then hb2 h3⟩
  rw [decide_eq_false he]
  (repeat with_reducible first|refine z_a ?_|refine z_b ?_|refine z_c ?_|refine z_d ?_|refine z_e ?_|refine z_f ?_|refine z_g ?_|refine z_h ?_|refine z_i ?_|refine z_j ?_|refine z_k ?_|refine z_l ?_|refine z_m (by omega) ?_|refine z_n (by omega) ?_|refine z_o (by omega) ?_|refine z_p (by omega) ?_|refine z_q (by omega) ?_|refine z_r (by omega) ?_|refine z_s (by omega) ?_|refine z_t (by omega) ?_|refine z_u (by omega) ?_|refine z_v (by omega) ?_|refine z_w (by omega) ?_|refine z_x (by omega) ?_|refine z_y (by omega) ?_|refine z_z (by omega) ?_|refine z_A ?_|refine z_B ?_|refine z_C ?_|refine z_D ?_|refine z_E ?_|refine z_F ?_|refine z_G ?_|refine z_H ?_|refine z_I ?_)
  refine (least18 v l (by omega) w2 (hv.kept hb2)).mono ?_
  rintro u w3 ⟨xs, hleast, hxl, ho3, h3⟩
  have hb3 := below_then hb2 h3
  have hR3 := (hR1.below' h2).below' h3
  have hrow := ho3.rd
  obtain ⟨A, c, rfl, hc, hmx⟩ := ho3.g.1.slice
  have hmx : c ≤ 9223372036854775807 := hmx
  refine ln und26 ?_
  have hs3 := hb3.size
  refine LoopP.inv2 (fun ov iv w' => ∃ k : Nat, k ≤ xs.length ∧ iv = .int .i64 k ∧ OwnA w3.heap.size w' ov ((xs.take k).flatMap fun x => leftP x r) ∧ Below w3.heap.size w3 w') (fun _ iv _ => xs.length - (intOf iv).toNat)
    ⟨0, Nat.zero_le _, rfl, OwnA.nil _ _, Below.refl _ _⟩ ?_
  rintro ov _ w4 ⟨k, hk, rfl, hov, hb4⟩ J hJ
  dsimp only [List.headD_cons, List.tail_cons]
  refine bi_lss_c (fun h => ?_) (fun h => ?_)
  · have hk' : k < xs.length := by omega
    obtain ⟨a, rfl, hcell⟩ := (hrow.kept hb4).at k hk'
    have hfold : ((xs.take (k + 1)).flatMap fun x => leftP x r) = ((xs.take k).flatMap fun x => leftP x r) ++ leftP xs[k] r := by
      rw [List.take_succ_eq_append_getElem hk', List.flatMap_append]; simp
    have hol : ((xs.take k).flatMap fun x => leftP x r).length ≤ 2000 := by
      have := lefts_len r (xs.take k)
      rw [List.length_take] at this; omega
    generalize ((xs.take k).flatMap fun x => leftP x r) = out at *
    (repeat with_reducible first|refine z_a ?_|refine z_b ?_|refine z_c ?_|refine z_d ?_|refine z_e ?_|refine z_f ?_|refine z_g ?_|refine z_h ?_|refine z_i ?_|refine z_j ?_|refine z_k ?_|refine z_l ?_|refine z_m (by omega) ?_|refine z_n (by omega) ?_|refine z_o (by omega) ?_|refine z_p (by omega) ?_|refine z_q (by omega) ?_|refine z_r (by omega) ?_|refine z_s (by omega) ?_|refine z_t (by omega) ?_|refine z_u (by omega) ?_|refine z_v (by omega) ?_|refine z_w (by omega) ?_|refine z_x (by omega) ?_|refine z_y (by omega) ?_|refine z_z (by omega) ?_|refine z_A ?_|refine z_B ?_|refine z_C ?_|refine z_D ?_|refine z_E ?_|refine z_F ?_|refine z_G ?_|refine z_H ?_|refine z_I ?_)
    refine JoinP.cut (fun zs w' => ∃ ov', zs = [ov'] ∧ OwnA w3.heap.size w' ov' (out ++ leftP xs[k] r) ∧ Below w3.heap.size w3 w') (fun J1 hJ1 => ?_) (fun zs w' hI => ?_)
    · (repeat with_reducible first | refine ixN und26 sz23 k hk' ?_|refine z_a ?_|refine z_b ?_|refine z_c ?_|refine z_d ?_|refine z_e ?_|refine z_f ?_|refine z_g ?_|refine z_h ?_|refine z_i ?_|refine z_j ?_|refine z_k ?_|refine z_l ?_|refine z_m (by omega) ?_|refine z_n (by omega) ?_|refine z_o (by omega) ?_|refine z_p (by omega) ?_|refine z_q (by omega) ?_|refine z_r (by omega) ?_|refine z_s (by omega) ?_|refine z_t (by omega) ?_|refine z_u (by omega) ?_|refine z_v (by omega) ?_|refine z_w (by omega) ?_|refine z_x (by omega) ?_|refine z_y (by omega) ?_|refine z_z (by omega) ?_|refine z_A ?_|refine z_B ?_|refine z_C ?_|refine z_D ?_|refine z_E ?_|refine z_F ?_|refine z_G ?_|refine z_H ?_|refine z_I ?_)
      refine ldR (us := rgF xs[k]) agg23 hcell (by rw [sz23]; rfl) ?_
      generalize xs[k] = x at *
      refine alB z23 ?_
      intro gv w5 hgv hV5 h5
      refine stB hV5 (by rw [sz23]; rfl) (by rfl) (cells := rgA x) (rgA_one _) ?_
      intro w6 hV6 hT6
      have hs4 := hb4.size
      have h6 : Below w4.heap.size w4 w6 := below_own h5 hT6 (by omega)
      have hb6 : Below w3.heap.size w3 w6 := below_then hb4 h6
      have ho6 := hov.kept h6
      have hs6 := h6.size
      have hne : ¬ ov.ownBlock = some gv := fun e => by
        have := ownsRow_lt hov.1 e
        omega
      have hta := tA_len x r
      refine JoinP.cut (fun zs w' => ∃ ov', zs = [ov'] ∧ OwnA w3.heap.size w' ov' (out ++ tA x r) ∧ Below w3.heap.size w3 w' ∧ Blk w' gv 32 (rgA x)) (fun J2 hJ2 => ?_) (fun zs w7 hI => ?_)
      · have r0 : w6.cell? ⟨gr, 0, none⟩ = some (tS r.1) := (hR3.below' hb6).cell 0
        (repeat with_reducible first | refine fd g0 (by decide) ?_| refine ld one9 r0 ?_|refine z_a ?_|refine z_b ?_|refine z_c ?_|refine z_d ?_|refine z_e ?_|refine z_f ?_|refine z_g ?_|refine z_h ?_|refine z_i ?_|refine z_j ?_|refine z_k ?_|refine z_l ?_|refine z_m (by omega) ?_|refine z_n (by omega) ?_|refine z_o (by omega) ?_|refine z_p (by omega) ?_|refine z_q (by omega) ?_|refine z_r (by omega) ?_|refine z_s (by omega) ?_|refine z_t (by omega) ?_|refine z_u (by omega) ?_|refine z_v (by omega) ?_|refine z_w (by omega) ?_|refine z_x (by omega) ?_|refine z_y (by omega) ?_|refine z_z (by omega) ?_|refine z_A ?_|refine z_B ?_|refine z_C ?_|refine z_D ?_|refine z_E ?_|refine z_F ?_|refine z_G ?_|refine z_H ?_|refine z_I ?_)
        refine tl_neq0_c (fun h1 => ?_) (fun h1 => ?_)
        · (repeat with_reducible first|refine z_a ?_|refine z_b ?_|refine z_c ?_|refine z_d ?_|refine z_e ?_|refine z_f ?_|refine z_g ?_|refine z_h ?_|refine z_i ?_|refine z_j ?_|refine z_k ?_|refine z_l ?_|refine z_m (by omega) ?_|refine z_n (by omega) ?_|refine z_o (by omega) ?_|refine z_p (by omega) ?_|refine z_q (by omega) ?_|refine z_r (by omega) ?_|refine z_s (by omega) ?_|refine z_t (by omega) ?_|refine z_u (by omega) ?_|refine z_v (by omega) ?_|refine z_w (by omega) ?_|refine z_x (by omega) ?_|refine z_y (by omega) ?_|refine z_z (by omega) ?_|refine z_A ?_|refine z_B ?_|refine z_C ?_|refine z_D ?_|refine z_E ?_|refine z_F ?_|refine z_G ?_|refine z_H ?_|refine z_I ?_)
          refine ldA agg23 hV6 (by rw [sz23]; rfl) ?_
          (repeat with_reducible first | refine fd g0 (by decide) ?_| refine ld one9 r0 ?_|refine z_a ?_|refine z_b ?_|refine z_c ?_|refine z_d ?_|refine z_e ?_|refine z_f ?_|refine z_g ?_|refine z_h ?_|refine z_i ?_|refine z_j ?_|refine z_k ?_|refine z_l ?_|refine z_m (by omega) ?_|refine z_n (by omega) ?_|refine z_o (by omega) ?_|refine z_p (by omega) ?_|refine z_q (by omega) ?_|refine z_r (by omega) ?_|refine z_s (by omega) ?_|refine z_t (by omega) ?_|refine z_u (by omega) ?_|refine z_v (by omega) ?_|refine z_w (by omega) ?_|refine z_x (by omega) ?_|refine z_y (by omega) ?_|refine z_z (by omega) ?_|refine z_A ?_|refine z_B ?_|refine z_C ?_|refine z_D ?_|refine z_E ?_|refine z_F ?_|refine z_G ?_|refine z_H ?_|refine z_I ?_)
          refine bd (cells := rgA ([], r.1)) (by kernel_rfl) ?_
          refine (meet12 x ([], r.1) w6).mono ?_
          rintro _ w8 ⟨rfl, h8⟩
          unfold mtV
          have hs8 := h8.size
          (repeat with_reducible first|refine z_a ?_|refine z_b ?_|refine z_c ?_|refine z_d ?_|refine z_e ?_|refine z_f ?_|refine z_g ?_|refine z_h ?_|refine z_i ?_|refine z_j ?_|refine z_k ?_|refine z_l ?_|refine z_m (by omega) ?_|refine z_n (by omega) ?_|refine z_o (by omega) ?_|refine z_p (by omega) ?_|refine z_q (by omega) ?_|refine z_r (by omega) ?_|refine z_s (by omega) ?_|refine z_t (by omega) ?_|refine z_u (by omega) ?_|refine z_v (by omega) ?_|refine z_w (by omega) ?_|refine z_x (by omega) ?_|refine z_y (by omega) ?_|refine z_z (by omega) ?_|refine z_A ?_|refine z_B ?_|refine z_C ?_|refine z_D ?_|refine z_E ?_|refine z_F ?_|refine z_G ?_|refine z_H ?_|refine z_I ?_)
          refine alB z23 ?_
          intro gy w9 hgy hY9 h9
          refine stB hY9 (by rw [sz23]; rfl) (by rfl) (cells := rgA ((meetP x ([], r.1)).getD ([], []))) (rgA_one _) ?_
          intro wa hYa hTa
          have ha := below_own (below_then h8 h9) hTa (by omega)
          have hba := below_then hb6 ha
          have hoa := ho6.kept ha
          cases hM : meetP x ([], r.1) with
          | none =>
            rw [hM] at hYa
            simp only [Option.isSome_none]
            (repeat with_reducible first|refine z_a ?_|refine z_b ?_|refine z_c ?_|refine z_d ?_|refine z_e ?_|refine z_f ?_|refine z_g ?_|refine z_h ?_|refine z_i ?_|refine z_j ?_|refine z_k ?_|refine z_l ?_|refine z_m (by omega) ?_|refine z_n (by omega) ?_|refine z_o (by omega) ?_|refine z_p (by omega) ?_|refine z_q (by omega) ?_|refine z_r (by omega) ?_|refine z_s (by omega) ?_|refine z_t (by omega) ?_|refine z_u (by omega) ?_|refine z_v (by omega) ?_|refine z_w (by omega) ?_|refine z_x (by omega) ?_|refine z_y (by omega) ?_|refine z_z (by omega) ?_|refine z_A ?_|refine z_B ?_|refine z_C ?_|refine z_D ?_|refine z_E ?_|refine z_F ?_|refine z_G ?_|refine z_H ?_|refine z_I ?_)
            refine hJ2 _ _ ⟨_, rfl, ?_, hba, hV6.below' ha⟩
            have e : tA x r = [] := by rw [tA, if_pos h1, hM]; rfl
            rw [e, List.append_nil]; exact hoa
          | some y =>
            rw [hM] at hYa
            simp only [Option.isSome_some]
            (repeat with_reducible first|refine z_a ?_|refine z_b ?_|refine z_c ?_|refine z_d ?_|refine z_e ?_|refine z_f ?_|refine z_g ?_|refine z_h ?_|refine z_i ?_|refine z_j ?_|refine z_k ?_|refine z_l ?_|refine z_m (by omega) ?_|refine z_n (by omega) ?_|refine z_o (by omega) ?_|refine z_p (by omega) ?_|refine z_q (by omega) ?_|refine z_r (by omega) ?_|refine z_s (by omega) ?_|refine z_t (by omega) ?_|refine z_u (by omega) ?_|refine z_v (by omega) ?_|refine z_w (by omega) ?_|refine z_x (by omega) ?_|refine z_y (by omega) ?_|refine z_z (by omega) ?_|refine z_A ?_|refine z_B ?_|refine z_C ?_|refine z_D ?_|refine z_E ?_|refine z_F ?_|refine z_G ?_|refine z_H ?_|refine z_I ?_)
            refine ldA agg23 hYa (by rw [sz23]; rfl) ?_
            refine hoa.push (by have := hba.size; omega) (by omega) y ?_
            intro vb wb hob hTb hbb
            refine hJ2 _ _ ⟨_, rfl, ?_, hba.trans hbb, (hV6.below' ha).turns hTb hne⟩
            have e : tA x r = [y] := by rw [tA, if_pos h1, hM]; rfl
            rw [e]; exact hob
        · (repeat with_reducible first|refine z_a ?_|refine z_b ?_|refine z_c ?_|refine z_d ?_|refine z_e ?_|refine z_f ?_|refine z_g ?_|refine z_h ?_|refine z_i ?_|refine z_j ?_|refine z_k ?_|refine z_l ?_|refine z_m (by omega) ?_|refine z_n (by omega) ?_|refine z_o (by omega) ?_|refine z_p (by omega) ?_|refine z_q (by omega) ?_|refine z_r (by omega) ?_|refine z_s (by omega) ?_|refine z_t (by omega) ?_|refine z_u (by omega) ?_|refine z_v (by omega) ?_|refine z_w (by omega) ?_|refine z_x (by omega) ?_|refine z_y (by omega) ?_|refine z_z (by omega) ?_|refine z_A ?_|refine z_B ?_|refine z_C ?_|refine z_D ?_|refine z_E ?_|refine z_F ?_|refine z_G ?_|refine z_H ?_|refine z_I ?_)
          refine hJ2 _ _ ⟨_, rfl, ?_, hb6, hV6⟩
          have e : tA x r = [] := by rw [tA, if_neg h1]
          rw [e, List.append_nil]; exact ho6
      · obtain ⟨ov', rfl, ho7, hb7, hV7⟩ := hI
        dsimp only [List.headD_cons, List.tail_cons]
        have r1 : w7.cell? ⟨gr, 1, none⟩ = some (tS r.2) := (hR3.below' hb7).cell 1
        (repeat with_reducible first | refine fd g1 (by decide) ?_| refine ld one9 r1 ?_|refine z_a ?_|refine z_b ?_|refine z_c ?_|refine z_d ?_|refine z_e ?_|refine z_f ?_|refine z_g ?_|refine z_h ?_|refine z_i ?_|refine z_j ?_|refine z_k ?_|refine z_l ?_|refine z_m (by omega) ?_|refine z_n (by omega) ?_|refine z_o (by omega) ?_|refine z_p (by omega) ?_|refine z_q (by omega) ?_|refine z_r (by omega) ?_|refine z_s (by omega) ?_|refine z_t (by omega) ?_|refine z_u (by omega) ?_|refine z_v (by omega) ?_|refine z_w (by omega) ?_|refine z_x (by omega) ?_|refine z_y (by omega) ?_|refine z_z (by omega) ?_|refine z_A ?_|refine z_B ?_|refine z_C ?_|refine z_D ?_|refine z_E ?_|refine z_F ?_|refine z_G ?_|refine z_H ?_|refine z_I ?_)
        refine tl_neq0_c (fun h1 => ?_) (fun h1 => ?_)
        · (repeat with_reducible first|refine z_a ?_|refine z_b ?_|refine z_c ?_|refine z_d ?_|refine z_e ?_|refine z_f ?_|refine z_g ?_|refine z_h ?_|refine z_i ?_|refine z_j ?_|refine z_k ?_|refine z_l ?_|refine z_m (by omega) ?_|refine z_n (by omega) ?_|refine z_o (by omega) ?_|refine z_p (by omega) ?_|refine z_q (by omega) ?_|refine z_r (by omega) ?_|refine z_s (by omega) ?_|refine z_t (by omega) ?_|refine z_u (by omega) ?_|refine z_v (by omega) ?_|refine z_w (by omega) ?_|refine z_x (by omega) ?_|refine z_y (by omega) ?_|refine z_z (by omega) ?_|refine z_A ?_|refine z_B ?_|refine z_C ?_|refine z_D ?_|refine z_E ?_|refine z_F ?_|refine z_G ?_|refine z_H ?_|refine z_I ?_)
          refine ldA agg23 hV7 (by rw [sz23]; rfl) ?_
          (repeat with_reducible first | refine fd g1 (by decide) ?_| refine ld one9 r1 ?_|refine z_a ?_|refine z_b ?_|refine z_c ?_|refine z_d ?_|refine z_e ?_|refine z_f ?_|refine z_g ?_|refine z_h ?_|refine z_i ?_|refine z_j ?_|refine z_k ?_|refine z_l ?_|refine z_m (by omega) ?_|refine z_n (by omega) ?_|refine z_o (by omega) ?_|refine z_p (by omega) ?_|refine z_q (by omega) ?_|refine z_r (by omega) ?_|refine z_s (by omega) ?_|refine z_t (by omega) ?_|refine z_u (by omega) ?_|refine z_v (by omega) ?_|refine z_w (by omega) ?_|refine z_x (by omega) ?_|refine z_y (by omega) ?_|refine z_z (by omega) ?_|refine z_A ?_|refine z_B ?_|refine z_C ?_|refine z_D ?_|refine z_E ?_|refine z_F ?_|refine z_G ?_|refine z_H ?_|refine z_I ?_)
          refine bd (cells := rgA (r.2, [])) (by kernel_rfl) ?_
          refine (meet12 x (r.2, []) w7).mono ?_
          rintro _ w8 ⟨rfl, h8⟩
          unfold mtV
          have hs8 := h8.size
          (repeat with_reducible first|refine z_a ?_|refine z_b ?_|refine z_c ?_|refine z_d ?_|refine z_e ?_|refine z_f ?_|refine z_g ?_|refine z_h ?_|refine z_i ?_|refine z_j ?_|refine z_k ?_|refine z_l ?_|refine z_m (by omega) ?_|refine z_n (by omega) ?_|refine z_o (by omega) ?_|refine z_p (by omega) ?_|refine z_q (by omega) ?_|refine z_r (by omega) ?_|refine z_s (by omega) ?_|refine z_t (by omega) ?_|refine z_u (by omega) ?_|refine z_v (by omega) ?_|refine z_w (by omega) ?_|refine z_x (by omega) ?_|refine z_y (by omega) ?_|refine z_z (by omega) ?_|refine z_A ?_|refine z_B ?_|refine z_C ?_|refine z_D ?_|refine z_E ?_|refine z_F ?_|refine z_G ?_|refine z_H ?_|refine z_I ?_)
          refine alB z23 ?_
          intro gy w9 hgy hY9 h9
          refine stB hY9 (by rw [sz23]; rfl) (by rfl) (cells := rgA ((meetP x (r.2, [])).getD ([], []))) (rgA_one _) ?_
          intro wa hYa hTa
          have ha := below_own (below_then h8 h9) hTa (by omega)
          have hba := below_then hb7 ha
          have hoa := ho7.kept ha
          cases hM : meetP x (r.2, []) with
          | none =>
            rw [hM] at hYa
            simp only [Option.isSome_none]
            (repeat with_reducible first|refine z_a ?_|refine z_b ?_|refine z_c ?_|refine z_d ?_|refine z_e ?_|refine z_f ?_|refine z_g ?_|refine z_h ?_|refine z_i ?_|refine z_j ?_|refine z_k ?_|refine z_l ?_|refine z_m (by omega) ?_|refine z_n (by omega) ?_|refine z_o (by omega) ?_|refine z_p (by omega) ?_|refine z_q (by omega) ?_|refine z_r (by omega) ?_|refine z_s (by omega) ?_|refine z_t (by omega) ?_|refine z_u (by omega) ?_|refine z_v (by omega) ?_|refine z_w (by omega) ?_|refine z_x (by omega) ?_|refine z_y (by omega) ?_|refine z_z (by omega) ?_|refine z_A ?_|refine z_B ?_|refine z_C ?_|refine z_D ?_|refine z_E ?_|refine z_F ?_|refine z_G ?_|refine z_H ?_|refine z_I ?_)
            refine hJ1 _ _ ⟨_, rfl, ?_, hba⟩
            have e : tB' x r = [] := by rw [tB', if_pos h1, hM]; rfl
            rw [left_two, ← List.append_assoc, e, List.append_nil]; exact hoa
          | some y =>
            rw [hM] at hYa
            simp only [Option.isSome_some]
            (repeat with_reducible first|refine z_a ?_|refine z_b ?_|refine z_c ?_|refine z_d ?_|refine z_e ?_|refine z_f ?_|refine z_g ?_|refine z_h ?_|refine z_i ?_|refine z_j ?_|refine z_k ?_|refine z_l ?_|refine z_m (by omega) ?_|refine z_n (by omega) ?_|refine z_o (by omega) ?_|refine z_p (by omega) ?_|refine z_q (by omega) ?_|refine z_r (by omega) ?_|refine z_s (by omega) ?_|refine z_t (by omega) ?_|refine z_u (by omega) ?_|refine z_v (by omega) ?_|refine z_w (by omega) ?_|refine z_x (by omega) ?_|refine z_y (by omega) ?_|refine z_z (by omega) ?_|refine z_A ?_|refine z_B ?_|refine z_C ?_|refine z_D ?_|refine z_E ?_|refine z_F ?_|refine z_G ?_|refine z_H ?_|refine z_I ?_)
            refine ldA agg23 hYa (by rw [sz23]; rfl) ?_
            refine hoa.push (by have := hba.size; omega) (by rw [List.length_append]; omega) y ?_
            intro vb wb hob hTb hbb
            refine hJ1 _ _ ⟨_, rfl, ?_, hba.trans hbb⟩
            have e : tB' x r = [y] := by rw [tB', if_pos h1, hM]; rfl
            rw [left_two, ← List.append_assoc, e]; exact hob
        · (repeat with_reducible first|refine z_a ?_|refine z_b ?_|refine z_c ?_|refine z_d ?_|refine z_e ?_|refine z_f ?_|refine z_g ?_|refine z_h ?_|refine z_i ?_|refine z_j ?_|refine z_k ?_|refine z_l ?_|refine z_m (by omega) ?_|refine z_n (by omega) ?_|refine z_o (by omega) ?_|refine z_p (by omega) ?_|refine z_q (by omega) ?_|refine z_r (by omega) ?_|refine z_s (by omega) ?_|refine z_t (by omega) ?_|refine z_u (by omega) ?_|refine z_v (by omega) ?_|refine z_w (by omega) ?_|refine z_x (by omega) ?_|refine z_y (by omega) ?_|refine z_z (by omega) ?_|refine z_A ?_|refine z_B ?_|refine z_C ?_|refine z_D ?_|refine z_E ?_|refine z_F ?_|refine z_G ?_|refine z_H ?_|refine z_I ?_)
          refine hJ1 _ _ ⟨_, rfl, ?_, hb7⟩
          have e : tB' x r = [] := by rw [tB', if_neg h1]
          rw [left_two, ← List.append_assoc, e, List.append_nil]; exact ho7
    · obtain ⟨ov', rfl, ho', hb'⟩ := hI
      dsimp only [List.headD_cons, List.tail_cons]
      (repeat with_reducible first|refine z_a ?_|refine z_b ?_|refine z_c ?_|refine z_d ?_|refine z_e ?_|refine z_f ?_|refine z_g ?_|refine z_h ?_|refine z_i ?_|refine z_j ?_|refine z_k ?_|refine z_l ?_|refine z_m (by omega) ?_|refine z_n (by omega) ?_|refine z_o (by omega) ?_|refine z_p (by omega) ?_|refine z_q (by omega) ?_|refine z_r (by omega) ?_|refine z_s (by omega) ?_|refine z_t (by omega) ?_|refine z_u (by omega) ?_|refine z_v (by omega) ?_|refine z_w (by omega) ?_|refine z_x (by omega) ?_|refine z_y (by omega) ?_|refine z_z (by omega) ?_|refine z_A ?_|refine z_B ?_|refine z_C ?_|refine z_D ?_|refine z_E ?_|refine z_F ?_|refine z_G ?_|refine z_H ?_|refine z_I ?_)
      exact hJ _ _ _ ⟨k + 1, by omega, by simp, by rw [hfold]; exact ho', hb'⟩ (by simp [intOf]; omega)
  · have : k = xs.length := by omega
    subst this
    rw [List.take_length] at hov
    have hll := lefts_len r xs
    (repeat with_reducible first|refine z_a ?_|refine z_b ?_|refine z_c ?_|refine z_d ?_|refine z_e ?_|refine z_f ?_|refine z_g ?_|refine z_h ?_|refine z_i ?_|refine z_j ?_|refine z_k ?_|refine z_l ?_|refine z_m (by omega) ?_|refine z_n (by omega) ?_|refine z_o (by omega) ?_|refine z_p (by omega) ?_|refine z_q (by omega) ?_|refine z_r (by omega) ?_|refine z_s (by omega) ?_|refine z_t (by omega) ?_|refine z_u (by omega) ?_|refine z_v (by omega) ?_|refine z_w (by omega) ?_|refine z_x (by omega) ?_|refine z_y (by omega) ?_|refine z_z (by omega) ?_|refine z_A ?_|refine z_B ?_|refine z_C ?_|refine z_D ?_|refine z_E ?_|refine z_F ?_|refine z_G ?_|refine z_H ?_|refine z_I ?_)
    exact ⟨_, minus_of hleast he, by omega, hov.mono hs3, hb3.trans (hb4.mono hs3)⟩
end Go.Proofs.Ytcfncjejpjjhdaa.E
namespace Go.Proofs.Ytcfncjejpjjhdaa.E
open Go Go.RowKit
set_option linter.unusedSimpArgs false
set_option linter.unusedVariables false

section
variable {K : Value → World → Prop} {w : World}
theorem bs1R (a : Rg) (k : ∀ v' w', OwnA w.heap.size w' v' [a] → Below w.heap.size w w' → K v' w') : LiftP Try.prog (Instr.buildSlice 22 1 #[(0, rgV a)]) K w :=
  lift (v := .slice (some ⟨w.heap.size, 0, none⟩) 1 1) (w' := w.alloc (.cells #[tS a.1, tS a.2] 32)) (by kernel_rfl)
    (k _ _ ⟨⟨rfl, .inr ⟨w.heap.size, 1, #[tS a.1, tS a.2], rfl, Nat.zero_le _, Blk.new w 32 _, Nat.le_refl _, by decide, rfl, rfl⟩⟩, Fresh.new (Nat.le_refl _) _ _⟩ ((Below.refl _ _).alloc (Nat.le_refl _) _))
end
theorem IsMinus.one {l : List Rg} {r : Rg} {out out' : List Rg} (h : IsMinus l r out) (h' : IsMinus l r out') : out = out' := canon_ext _ _ h.1 h'.1 fun s => (h.2 s).trans (h'.2 s).symm
end Go.Proofs.Ytcfncjejpjjhdaa.E
