import Derived.Test.YtmnaggdhkggjhaaGreatDoorM9
import Derived.Test.YtmnaggdhkggjhaaGreatDoorM8
namespace Go.Proofs.YtmnaggdhkggjhaaGreatDoor.E
open Go Go.Proofs Go.RowKit Go.Maps Go.Sort Go.Shelf
set_option linter.unusedSimpArgs false
set_option linter.unusedVariables false

theorem sortsA (m : Nat) : AnyZI.SortsIn Tryz.prog sortedA_ren Fence.wide m :=
  ⟨fun blk off cap ss W hH hblk hsz => callsIn_wide.2 (AnyM.slices_Sort_int sortA blk off cap ss W hH hblk hsz),
   fun p cap W => callsIn_wide.2 (AnyM.slices_Sort_int_none sortA p cap W)⟩
theorem sorted_spec (b g : Nat) (l : List (Int × Value)) (w : World) (h : MapI w b l) (hg : w.cell? ⟨g, 0, none⟩ = some (.map (some b))) (hl : l.length ≤ 1000000) :
    CallP Tryz.prog 28 #[.func (.func 57) #[] #[.pointer (some ⟨g, 0, none⟩)]] (fun r w' => Own 3 w' r (((l.map (·.1)).mergeSort leI).map (Value.int .i64)) ∧ Fresh w.heap.size r ∧ Below w.heap.size w w') w := by
  obtain ⟨D0, hown, hperm, hsize⟩ := h.owns
  have hseq : SeqGives Fence.wide 2 Tryz.prog 57 #[.pointer (some ⟨g, 0, none⟩)] encZ (fun ss => ss.Perm (intKeys D0)) (Maps.size D0) w :=
    AnyZI.keys_gives (ρ := keysA_ren) { keysA with } Fence.wide _ trivial rfl (by omega) g b l.length D0 _ (World.block_lt_of_cell? _ _ hg) hg hown
  have cS := AnyZI.sorted_in sortedA Fence.wide 5 trivial trivial trivial trivial rfl (by omega) (sortsA _) (enters_of Tryz.func54 (by kernel_rfl) rfl) 57 #[.pointer (some ⟨g, 0, none⟩)] trivial (enters_of Tryz.func57 (by kernel_rfl) rfl) _ _ (by rw [hsize]; simp only [maxLen]; omega) (by rw [hsize]; omega) _ hseq
  change CallsIn _ _ Tryz.prog 28 _ _ _ at cS
  refine ⟨(callsIn_wide.1 cS).mono fun e w' ⟨v, ss, h1, hS, hrow, hnil, hb⟩ => ⟨v, h1, ?_, ?_, hb⟩⟩
  · have e1 : ss.mergeSort (fun x y => decide (x ≤ y)) = (l.map (·.1)).mergeSort leI := mergeSort_of_perm_i (hS.trans hperm)
    rw [e1] at hrow
    have hlen : (((l.map (·.1)).mergeSort leI).map (Value.int .i64)).length = ss.length := by
      rw [List.length_map, ← e1, List.length_mergeSort]
    refine ⟨by simp, ?_⟩
    rw [hlen]
    rcases hrow.2 with h | ⟨gb, cap, cur, rfl, hbase, hgb, r1, r2, r3, r4⟩
    · exact .inl h
    · exact .inr ⟨gb, cap, cur, rfl, Nat.zero_le _, hgb, r1, r2, r3, r4⟩
  · intro k hk
    rcases hrow.2 with ⟨rfl, _⟩ | ⟨gb, cap, cur, rfl, hbase, _⟩
    · cases hk
    · have : gb = k := by simpa [Value.ownBlock] using hk
      omega
theorem rising_sorted {α : Type} {l : List (Int × α)} (h : Rising l) : (l.map (·.1)).mergeSort leI = l.map (·.1) :=
  List.mergeSort_of_pairwise (List.pairwise_map.2 (h.imp fun hlt => by simp only [leI, decide_eq_true_eq]; omega))
theorem Known_V {hu : Nat} {c : Nat → Nat} {w : World} {g : Nat} {V : Int → VC} {N : Nat} (id : Int) (h : TabV hu c w g V N) :
    CallP Tryz.prog 37 #[.pointer (some ⟨g, 0, none⟩), .int .i64 id] (fun r w' => Own 3 w' r (((V id).2.map (·.1)).map (Value.int .i64)) ∧ Fresh w.heap.size r ∧ Below w.heap.size w w') w := by
  obtain ⟨T, ⟨bm, h1⟩, h2, h3⟩ := h.out
  have hgood := h.good id
  have hsee := h3 id
  refine ⟨S37.calls _ _ _ _ ?_⟩
  unfold S37
  have c0 : w.cell? ⟨g, 0, none⟩ = some (.map (some bm)) := h1.blk.cell 0
  (repeat with_reducible first|refine fd t0 (by decide) ?_|refine ld one58 c0 ?_|refine z_a ?_)
  refine lkq und58 und3 z63 h1.map ?_
  rw [getK_map (fun C : Cli => Value.pointer (some ⟨C.gc, 0, none⟩))]
  cases hx : getK id T with
  | none =>
    rw [hx] at hsee
    have hv : V id = (0, []) := hsee
    simp only [Option.map_none, Option.getD_none]
    refine ofPR (pr_pnot und63) ?_
    simp only [Option.isSome_none]
    (repeat with_reducible first|refine z_c ?_)
    rw [hv]
    exact ⟨Own.nil 3 w, Fresh.nil _, Below.refl _ w⟩
  | some C =>
    rw [hx] at hsee
    have hs : Sees C (V id) := hsee
    simp only [Option.map_some, Option.getD_some]
    refine ofPR (pr_pnot und63) ?_
    have hC := (h1.el _ (getK_mem _ _ _ hx)).2
    have e1 : w.cell? ⟨C.gc, 1, none⟩ = some (.map (some C.br)) := hC.blk.cell 1
    simp only [Option.isSome_some]
    (repeat with_reducible first|refine fd k1 (by decide) ?_|refine ld one66 e1 ?_|refine z_a ?_|refine z_b ?_)
    refine (keys_spec C.br w).mono ?_
    rintro _ _ ⟨rfl, rfl⟩
    have hb := (Below.refl w.heap.size w).alloc (Nat.le_refl _) (.cells #[.map (some C.br)] 61)
    have hB : Blk (w.alloc (.cells #[.map (some C.br)] 61)) w.heap.size 61 #[.map (some C.br)] := Blk.new w 61 _
    have hl := hs.l.length_eq
    have h4 := hgood.len
    simp only [absL, List.length_map] at hl
    refine (sorted_spec C.br w.heap.size _ _ (hC.map.below hb) (hB.cell 0) (by rw [List.length_map]; show C.l.length ≤ _; omega)).mono ?_
    rintro r w' ⟨g1, g2, g3⟩
    rw [List.map_map] at g1
    have hk : (C.l.map (·.1)).mergeSort leI = (V id).2.map (·.1) := by
      rw [mergeSort_of_perm_i hs.keys, rising_sorted hgood.rise]
    have g1' : Own 3 w' r (((C.l.map (·.1)).mergeSort leI).map (Value.int .i64)) := g1
    rw [hk] at g1'
    exact ⟨g1', fun k hk => by have := g2 k hk; have := hb.size; omega, below_then hb g3⟩
theorem sameInts_spec (v v' : Value) (ys : List Int) (w : World) (hv : Rd w v (ys.map (Value.int .i64))) (hv' : Rd w v' (ys.map (Value.int .i64))) (hl : ys.length ≤ 1000000) :
    CallP Tryz.prog 36 #[v, v'] (fun r w' => r = .bool true ∧ Below w.heap.size w w') w := by
  obtain ⟨A, c, rfl, _, _⟩ := hv.slice
  obtain ⟨A', c', rfl, _, _⟩ := hv'.slice
  have hlen : (ys.map (Value.int .i64)).length = ys.length := List.length_map _
  rw [hlen] at hv hv' ⊢
  refine ⟨S36.calls _ _ _ _ ?_⟩
  unfold S36
  refine ln und51 ?_
  refine ln und51 ?_
  refine bi_neq_c (fun h => absurd rfl h) (fun _ => ?_)
  (repeat with_reducible first|refine z_c ?_)
  refine LoopP.inv1 (fun iv w' => ∃ k : Nat, k ≤ ys.length ∧ iv = .int .i64 k ∧ Below w.heap.size w w') (fun iv _ => ys.length - (intOf iv).toNat) ⟨0, by omega, rfl, Below.refl _ _⟩ ?_
  rintro _ w1 ⟨k, hk, rfl, hb1⟩ J hJ
  dsimp only [List.headD_cons, List.tail_cons]
  refine ln und51 ?_
  refine bi_lss_c (fun h => ?_) (fun h => ?_)
  · have hk' : k < ys.length := by omega
    obtain ⟨a, rfl, hca⟩ := Rd.atI hv k hk'
    obtain ⟨a', rfl, hca'⟩ := Rd.atI hv' k hk'
    have hdr : Below w1.heap.size w1 w1.drew := (Below.refl _ _).drew
    have e1 : ∀ w', Below w.heap.size w w' → w'.cell? (a.add k) = some (.int .i64 ys[k]) := fun w' h => by rw [h.cell (World.block_lt_of_cell? _ _ hca), hca]
    have e2 : ∀ w', Below w.heap.size w w' → w'.cell? (a'.add k) = some (.int .i64 ys[k]) := fun w' h => by rw [h.cell (World.block_lt_of_cell? _ _ hca'), hca']
    (repeat with_reducible first|refine z_b ?_)
    refine draw (Below w.heap.size w) (below_then hb1 hdr) ?_
    refine yix1 und51 sz3 k hk' ?_
    refine yl1 one3 e1 ?_
    refine yix1 und51 sz3 k hk' ?_
    refine yl1 one3 e2 ?_
    refine yi_neq ?_
    rw [decide_eq_false (by simp)]
    (repeat with_reducible first|refine z_c ?_|refine z_o (by omega) ?_)
    exact hJ _ _ ⟨k + 1, by omega, by simp, below_then hb1 hdr⟩ (by simp [intOf]; omega)
  · (repeat with_reducible first|refine z_c ?_)
    exact ⟨rfl, hb1⟩
abbrev ActT := Int × Int × Int × ReplyT × Unit
abbrev rAct : Rdr ActT := rCons 1 (rI .i64) (rCons 1 (rI .i64) (rCons 1 (rI .i64) (rCons 5 rReply rNil)))
abbrev Acts : Rdr (List ActT) := rRow 8 rAct
def repOf (z : ReplyT) : Rep := ⟨z.1, z.2.1, z.2.2.2.2.1⟩
def ActT.cl (x : ActT) : Int := x.2.1
def ActT.no (x : ActT) : Int := x.2.2.1
def ActT.rep (x : ActT) : Rep := repOf x.2.2.2.1
def ActT.vs (x : ActT) : List ValT := x.2.2.2.1.2.2.1
def ActT.rows (x : ActT) : List RowT := x.2.2.2.1.2.2.2.1
theorem und39 : Tryz.prog.underlying 22 = some (.slice 41) := by kernel_rfl
theorem sz47 : (Tryz.prog.info? 41).map (·.size) = some 8 := by kernel_rfl
theorem q0 : fofs Tryz.prog 41 0 = some (0, 1) := by kernel_rfl
theorem q1 : fofs Tryz.prog 41 1 = some (1, 1) := by kernel_rfl
theorem q2 : fofs Tryz.prog 41 2 = some (2, 1) := by kernel_rfl
theorem q3 : fofs Tryz.prog 41 3 = some (3, 5) := by kernel_rfl
theorem opens_Acts : Opens Tryz.prog 22 Acts := opens_row und39 (by kernel_rfl) (opens_struct Tryz.underlying41 (by kernel_rfl)
  (opensF_cons rfl (by kernel_rfl) (by decide) (opens_int und3) (opensF_cons rfl (by kernel_rfl) (by decide) (opens_int und3) (opensF_cons rfl (by kernel_rfl) (by decide) (opens_int und3) (opensF_cons rfl (by kernel_rfl) (by decide) opens_Reply opensF_nil)))))
theorem keeps_Reply : Keeps rReply := keeps_Cons (keeps_I _) (keeps_Cons keeps_Bool (keeps_Cons keeps_Vals (keeps_Cons keeps_RowsR (keeps_Cons (keeps_I _) keeps_Nil))))
theorem keeps_Acts : Keeps Acts := keeps_Row (keeps_Cons (keeps_I _) (keeps_Cons (keeps_I _) (keeps_Cons (keeps_I _) (keeps_Cons keeps_Reply keeps_Nil))))
/-- One call of a row. -/
theorem act_at {w : World} {A : Option Addr} {n c : Nat} {l : List ActT} (h : Acts w [.slice A n c] l) (i : Nat) (hi : i < l.length) :
    ∃ a p q, A = some a ∧ w.cell? ((a.add (i * 8)).add 0) = some (.int .i64 l[i].1) ∧ w.cell? ((a.add (i * 8)).add 1) = some (.int .i64 l[i].cl) ∧ w.cell? ((a.add (i * 8)).add 2) = some (.int .i64 l[i].no) ∧
      (∀ j u, (l[i].rep.cells p q).toList[j]? = some u → w.cell? (((a.add (i * 8)).add 3).add j) = some u) ∧ Vals w [p] l[i].vs ∧ RowsR w [q] l[i].rows := by
  obtain ⟨a, us, rfl, hus, hcell, hrd⟩ := rRow.at h i hi
  obtain ⟨r, rfl, _, hr⟩ := rCons_I hrd
  obtain ⟨r, rfl, _, hr⟩ := rCons_I hr
  obtain ⟨r, rfl, _, hr⟩ := rCons_I hr
  obtain ⟨h1, h2⟩ := hr
  obtain ⟨p, q, he, hp, hq⟩ := reply_cells h1
  have h0 : r.drop 5 = [] := h2
  have hr5 : r = (l[i].rep.cells p q).toList := by rw [← List.take_append_drop 5 r, h0, List.append_nil, he]; rfl
  refine ⟨a, p, q, rfl, hcell 0 _ rfl, hcell 1 _ rfl, hcell 2 _ rfl, fun j u hu => ?_, hp, hq⟩
  rw [Addr.add_add]
  refine hcell (3 + j) u ?_
  rw [← hr5] at hu
  rw [show 3 + j = j + 3 from by omega]
  exact hu
def lightA (x : ActT) : Prop := x.vs.length ≤ 301 ∧ (x.vs.map (·.2.2.1.size)).sum ≤ 300 ∧ x.rows.length ≤ 10
theorem lightActs_spec (v : Value) (l : List ActT) (w : World) (hv : Acts w [v] l) :
    CallP Tryz.prog 5 #[v] (fun r w' => ∃ b, r = .bool b ∧ (b = true → l.length < 100 ∧ ∀ x ∈ l, lightA x) ∧ w = w') w := by
  obtain ⟨A, c, rfl, _, hm⟩ := hv.slice
  refine ⟨S5.calls _ _ _ ?_⟩
  unfold S5
  refine LoopP.inv1 (fun iv w' => ∃ k : Nat, k ≤ l.length ∧ k ≤ 100 ∧ iv = .int .i64 k ∧ (∀ x ∈ l.take k, lightA x) ∧ w = w') (fun iv _ => l.length - (intOf iv).toNat) ⟨0, by omega, by omega, rfl, by simp, rfl⟩ ?_
  rintro _ _ ⟨k, hk, hk1, rfl, hall, rfl⟩ J hJ
  dsimp only [List.headD_cons, List.tail_cons]
  have last : ∃ b, Value.bool (decide ((l.length : Int) < 100)) = .bool b ∧ ((k = l.length ∨ 100 ≤ k) → b = true → l.length < 100 ∧ ∀ x ∈ l, lightA x) ∧ w = w := by
    refine ⟨_, rfl, fun hor hb => ?_, rfl⟩
    have hlt : l.length < 100 := by have := of_decide_eq_true hb; omega
    refine ⟨hlt, ?_⟩
    have : k = l.length := by omega
    rw [this, List.take_length] at hall
    exact hall
  obtain ⟨b, hb, hb2, _⟩ := last
  refine ln und39 ?_
  refine bi_lss_c (fun h => ?_) (fun h => ?_)
  · have hk' : k < l.length := by omega
    (repeat with_reducible first|refine z_d ?_)
    refine bi_lss_c (fun h2 => ?_) (fun h2 => ?_)
    · obtain ⟨a, p, q, rfl, _, _, _, hcell, hp, hq⟩ := act_at hv k hk'
      have c2 : w.cell? (((a.add (k * 8)).add 3).add 2) = some p := hcell 2 _ rfl
      have c3 : w.cell? (((a.add (k * 8)).add 3).add 3) = some q := hcell 3 _ rfl
      (repeat with_reducible first|refine ixN und39 sz47 k hk' ?_|refine fdA q3 (by decide) ?_|refine fdA r2 (by decide) ?_|refine ld one24 c2 ?_|refine z_b ?_|refine z_k ?_)
      refine (light_spec _ _ w hp).mono ?_
      rintro _ _ ⟨b, rfl, hl, rfl⟩
      cases b with
      | false =>
        (repeat with_reducible first|refine z_b ?_|refine z_f ?_|refine z_k ?_|refine z_F ?_)
        exact ⟨false, rfl, (fun h => by cases h), rfl⟩
      | true =>
      obtain ⟨hl1, hl2⟩ := hl rfl
      obtain ⟨A', cA', rfl, _, hmA'⟩ := hq.slice
      (repeat with_reducible first|refine ixN und39 sz47 k hk' ?_|refine fdA q3 (by decide) ?_|refine fdA r3 (by decide) ?_|refine ld one25 c3 ?_|refine z_d ?_|refine z_E ?_)
      refine ln und25 ?_
      (repeat with_reducible first|refine z_d ?_)
      refine bi_gtr_c (fun h10 => ?_) (fun h10 => ?_)
      · (repeat with_reducible first|refine z_b ?_|refine z_l ?_)
        exact ⟨false, rfl, (fun h => by cases h), rfl⟩
      (repeat with_reducible first|refine z_c ?_|refine z_l ?_|refine z_o (by omega) ?_)
      refine hJ _ _ ⟨k + 1, by omega, by omega, by simp, fun x hx => ?_, rfl⟩ (by simp [intOf]; omega)
      rw [List.take_succ_eq_append_getElem hk'] at hx
      rcases List.mem_append.1 hx with hx | hx
      · exact hall x hx
      · simp only [List.mem_cons, List.not_mem_nil, or_false] at hx
        subst hx
        exact ⟨hl1, hl2, by omega⟩
    · (repeat with_reducible first|refine z_c ?_|refine z_k ?_)
      refine ln und39 ?_
      refine bi_lss ?_
      exact ⟨b, hb, hb2 (.inr (by omega)), rfl⟩
  · (repeat with_reducible first|refine z_c ?_|refine z_e ?_|refine z_l ?_)
    refine ln und39 ?_
    refine bi_lss ?_
    exact ⟨b, hb, hb2 (.inl (by omega)), rfl⟩
end Go.Proofs.YtmnaggdhkggjhaaGreatDoor.E
namespace Go.Proofs.YtmnaggdhkggjhaaGreatDoor.E
open Go Go.RowKit
set_option linter.unusedSimpArgs false
set_option linter.unusedVariables false

theorem Vals.lt {w : World} {v : Value} {l : List ValT} (h : Vals w [v] l) (h0 : l ≠ []) {k : Nat} (hk : v.ownBlock = some k) : k < w.heap.size := by
  obtain ⟨A, c, rfl, _, _⟩ := h.slice
  obtain ⟨a, us, rfl, hus, hc, _⟩ := rRow.at h 0 (List.length_pos_iff.2 h0)
  cases us with
  | nil => simp at hus
  | cons u r =>
    have := hc 0 u rfl
    have e : ((a.add (0 * 3)).add 0).block = a.block := rfl
    have hlt := World.block_lt_of_cell? w _ this
    rw [e] at hlt
    cases hk
    exact hlt
/-- A call with the pointers that it bears. -/
abbrev KA := ActT × Value × Value
def kaF (e : KA) : List Value := [.int .i64 e.1.1, .int .i64 e.1.cl, .int .i64 e.1.no, .int .i64 e.1.rep.code, .bool e.1.rep.there, e.2.1, e.2.2, .int .i64 e.1.rep.id]
theorem act_whole {w : World} {A : Option Addr} {n c : Nat} {l : List ActT} (h : Acts w [.slice A n c] l) (i : Nat) (hi : i < l.length) :
    ∃ a p q, A = some a ∧ (∀ j u, (kaF (l[i], p, q))[j]? = some u → w.cell? ((a.add (i * 8)).add j) = some u) ∧ Vals w [p] l[i].vs ∧ RowsR w [q] l[i].rows := by
  obtain ⟨a, us, rfl, hus, hcell, hrd⟩ := rRow.at h i hi
  obtain ⟨r, rfl, _, hr⟩ := rCons_I hrd
  obtain ⟨r, rfl, _, hr⟩ := rCons_I hr
  obtain ⟨r, rfl, _, hr⟩ := rCons_I hr
  obtain ⟨h1, h2⟩ := hr
  obtain ⟨p, q, he, hp, hq⟩ := reply_cells h1
  have h0 : r.drop 5 = [] := h2
  have hr5 : r = (l[i].rep.cells p q).toList := by rw [← List.take_append_drop 5 r, h0, List.append_nil, he]; rfl
  subst hr5
  exact ⟨a, p, q, rfl, hcell, hp, hq⟩
theorem agg47 : aggB Tryz.prog 41 = true := by kernel_rfl
theorem one_ka (e : KA) (hp : e.2.1.oneCell' = true) (hq : e.2.2.oneCell' = true) : ∀ u ∈ kaF e, u.oneCell' = true := by
  intro u hu
  simp only [kaF, List.mem_cons, List.not_mem_nil, or_false] at hu
  rcases hu with rfl | rfl | rfl | rfl | rfl | rfl | rfl | rfl <;> first | rfl | assumption
/-- What came in lies below, where all is of no colour. -/
theorem Vals.hue {w : World} {v : Value} {l : List ValT} (h : Vals w [v] l) {c : Nat → Nat} (hc : ∀ k, k < w.heap.size → c k = 0) {hu : Nat} (hh : 0 < hu) : l = [] ∨ ∀ k, v.ownBlock = some k → c k % 1000 ≠ hu := by
  rcases Classical.em (l = []) with h0 | h0
  · exact .inl h0
  · exact .inr fun k hk => by rw [hc k (h.lt h0 hk)]; omega
/-- What is known is known of clients that may be. -/
def InP (V : Int → VC) : Prop := ∀ id, (V id).2 ≠ [] → 0 ≤ id ∧ id ≤ 1099511627776
theorem inP0 : InP V0 := fun id h => absurd rfl h
theorem InP.keep {V : Int → VC} (h : InP V) (id n : Int) (R : Rep) (vs : List ValT) (rows : Nat) : InP (keepQ V id n R vs rows).2 := by
  intro i hi
  unfold keepQ at hi
  split at hi
  · exact h i hi
  · rename_i harg
    split at hi
    · exact h i hi
    · rename_i h12
      split at hi
      · exact h i hi
      · rename_i h0
        by_cases he : i = id
        · subst he
          exact (lookQ_new (lookQ_bad (argP_bad (by simpa using harg))) h12 h0).1
        · exact h i (by rw [← setV_other V _ he]; exact hi)
end Go.Proofs.YtmnaggdhkggjhaaGreatDoor.E
namespace Go.Proofs.YtmnaggdhkggjhaaGreatDoor.E
open Go Go.RowKit
set_option linter.unusedSimpArgs false
set_option linter.unusedVariables false

theorem rowAt {s : Nat} {e : TypeId} {w : World} {v : Value} {α : Type} {f : α → List Value} {l : List α} (hf : ∀ x, (f x).length = s) (h : OwnR s e w v l.length (l.flatMap f)) (i : Nat) (hi : i < l.length) (hs : 0 < s) :
    ∃ g c, v = .slice (some ⟨g, 0, none⟩) l.length c ∧ ∀ j u, (f l[i])[j]? = some u → w.cell? ⟨g, i * s + j, none⟩ = some u := by
  obtain ⟨A, c, rfl, _, _⟩ := h.slice
  have hle : i * s + s ≤ l.length * s := by
    have := Nat.mul_le_mul_right s (show i + 1 ≤ l.length from hi)
    rw [Nat.succ_mul] at this; omega
  obtain ⟨g, _, rfl, _, _, _⟩ := h.at (i * s) (by omega)
  refine ⟨g, c, rfl, fun j u hu => ?_⟩
  have hj : j < s := by have := (List.getElem?_eq_some_iff.1 hu).1; rw [hf] at this; exact this
  obtain ⟨g', u', he, hu', hc, _⟩ := h.at (i * s + j) (by omega)
  cases he
  rw [hc]
  have := flatMap_at f s hf l i j l[i] (List.getElem?_eq_getElem hi) hj
  rw [hu', hu] at this
  exact this
structure OneM where
  cl : Int
  no : Int
  R : Rep
  p : Value
  q : Value
  vs : List ValT
def oneF (x : OneM) : List Value := [.int .i64 x.cl, .int .i64 x.no, .int .i64 x.R.code, .bool x.R.there, x.p, x.q, .int .i64 x.R.id]
theorem oneF_len (x : OneM) : (oneF x).length = 7 := rfl
def flF (x : Int × Int) : List Value := [.int .i64 x.1, .int .i64 x.2]
theorem flF_len (x : Int × Int) : (flF x).length = 2 := rfl
/-- The values of an answer that was handed to the reference: never turned again (colour 999). -/
structure ElAt (c : Nat → Nat) (w : World) (x : OneM) : Prop where
  own : OwnR 3 91 w x.p x.vs.length (x.vs.flatMap valF)
  hue : InC c 999 x.p
  ok : ∀ v ∈ x.vs, valOk v
  len : x.vs.length ≤ 1000
  rows : ∃ A n, x.q = .slice A 0 n ∧ n ≤ 9223372036854775807
structure RefAt (hu : Nat) (c : Nat → Nat) (w : World) (g : Nat) (vL vF : Value) (L : List OneM) (F : List (Int × Int)) : Prop where
  hh : 0 < hu ∧ hu < 999
  hue : c g = hu
  blk : Blk w g 32 #[vL, vF]
  rowL : OwnR 7 67 w vL L.length (L.flatMap oneF)
  rowF : OwnR 2 88 w vF F.length (F.flatMap flF)
  hueL : InC c hu vL
  hueF : InC c hu vF
  el : ∀ x ∈ L, ElAt c w x
section
variable {hu : Nat} {c c' : Nat → Nat} {w w' : World} {g : Nat} {vL vF : Value} {L : List OneM} {F : List (Int × Int)} {x : OneM}
theorem ElAt.turns {G : Nat → Prop} (h : ElAt c w x) (hT : Turns G w w') (hG : ∀ k, G k → c k ≠ 999) : ElAt c w' x := ⟨h.own.turns hT fun k hk e => hG k e (h.hue k hk), h.hue, h.ok, h.len, h.rows⟩
theorem ElAt.re (h : ElAt c w x) (hc : ∀ k, k < w.heap.size → c' k = c k) : ElAt c' w x := ⟨h.own, fun k hk => by rw [hc k (h.own.lt hk)]; exact h.hue k hk, h.ok, h.len, h.rows⟩
theorem ElAt.vals (h : ElAt c w x) : Vals w [x.p] x.vs := h.own.rd (fun _ => rfl) fun p hp => rVal_of (h.ok p hp)
theorem ElAt.one (h : ElAt c w x) : x.p.oneCell' = true := by obtain ⟨A, n, e, _⟩ := h.own.slice; rw [e]; rfl
theorem ElAt.oneq (h : ElAt c w x) : x.q.oneCell' = true := by obtain ⟨A, n, e, _⟩ := h.rows; rw [e]; rfl
theorem ElAt.noRows (h : ElAt c w x) : RowsR w' [x.q] [] := by
  obtain ⟨A, n, e, hn⟩ := h.rows
  exact ⟨A, n, by rw [e]; rfl, Nat.zero_le _, by simp only [maxLen]; omega, fun i x hx => by simp at hx⟩
theorem RefAt.turns {G : Nat → Prop} (h : RefAt hu c w g vL vF L F) (hT : Turns G w w') (hG : ∀ k, G k → c k % 1000 ≠ hu ∧ c k ≠ 999) : RefAt hu c w' g vL vF L F := by
  have e : ∀ k, c k = hu → ¬ G k := fun k hk hg => (hG k hg).1 (by rw [hk]; have := h.hh; omega)
  exact ⟨h.hh, h.hue, h.blk.turns hT (e g h.hue), h.rowL.turns hT fun k hk => e k (h.hueL k hk), h.rowF.turns hT fun k hk => e k (h.hueF k hk), h.hueL, h.hueF, fun x hx => (h.el x hx).turns hT fun k hk => (hG k hk).2⟩
theorem RefAt.below (h : RefAt hu c w g vL vF L F) (hb : Below w.heap.size w w') : RefAt hu c w' g vL vF L F := h.turns (G := fun _ => False) (Turns.of_below hb) fun _ h => h.elim
theorem RefAt.re (h : RefAt hu c w g vL vF L F) (hc : ∀ k, k < w.heap.size → c' k = c k) : RefAt hu c' w g vL vF L F :=
  ⟨h.hh, (hc g h.blk.lt).trans h.hue, h.blk, h.rowL, h.rowF, fun k hk => by rw [hc k (h.rowL.lt hk)]; exact h.hueL k hk, fun k hk => by rw [hc k (h.rowF.lt hk)]; exact h.hueF k hk, fun x hx => (h.el x hx).re hc⟩
end
theorem und42 : Tryz.prog.underlying 29 = some (.slice 67) := by kernel_rfl
theorem und43 : Tryz.prog.underlying 30 = some (.slice 88) := by kernel_rfl
theorem one42 : oneB Tryz.prog 29 = true := by kernel_rfl
theorem one43 : oneB Tryz.prog 30 = true := by kernel_rfl
theorem sz42 : (Tryz.prog.info? 29).map (·.size) = some 1 := by kernel_rfl
theorem sz43 : (Tryz.prog.info? 30).map (·.size) = some 1 := by kernel_rfl
theorem sz73 : (Tryz.prog.info? 67).map (·.size) = some 7 := by kernel_rfl
theorem sz84 : (Tryz.prog.info? 88).map (·.size) = some 2 := by kernel_rfl
theorem agg73 : aggB Tryz.prog 67 = true := by kernel_rfl
theorem agg84 : aggB Tryz.prog 88 = true := by kernel_rfl
theorem inf3 : (Tryz.prog.info? 3).map (fun i => (i.zero, i.size, i.bytes)) = some (some (.int .i64 0), 1, 8) := by kernel_rfl
theorem inf84 : (Tryz.prog.info? 88).map (fun i => (i.zero, i.size, i.bytes)) = some (some (.agg #[.int .i64 0, .int .i64 0]), 2, 16) := by kernel_rfl
theorem inf73 : (Tryz.prog.info? 67).map (fun i => (i.zero, i.size, i.bytes)) = some (some (.agg #[.int .i64 0, .int .i64 0, .int .i64 0, .bool false, .slice none 0 0, .slice none 0 0, .int .i64 0]), 7, 88) := by kernel_rfl
theorem m0 : fofs Tryz.prog 32 0 = some (0, 1) := by kernel_rfl
theorem m1 : fofs Tryz.prog 32 1 = some (1, 1) := by kernel_rfl
theorem o0 : fofs Tryz.prog 67 0 = some (0, 1) := by kernel_rfl
theorem o1 : fofs Tryz.prog 67 1 = some (1, 1) := by kernel_rfl
theorem o2 : fofs Tryz.prog 67 2 = some (2, 5) := by kernel_rfl
theorem f0 : fofs Tryz.prog 88 0 = some (0, 1) := by kernel_rfl
theorem f1 : fofs Tryz.prog 88 1 = some (1, 1) := by kernel_rfl
theorem refBad_spec (id n : Int) (w : World) : CallP Tryz.prog 21 #[.int .i64 id, .int .i64 n] (fun r w' => r = .bool (badP id n) ∧ w = w') w := by
  refine ⟨S21.calls _ _ _ _ ?_⟩
  unfold S21
  refine bi_lss_c (fun h1 => ?_) (fun h1 => ?_)
  · (repeat with_reducible first|refine z_f ?_|refine z_k ?_)
    exact ⟨by simp [badP]; omega, rfl⟩
  (repeat with_reducible first|refine z_d ?_)
  refine bi_gtr_c (fun h2 => ?_) (fun h2 => ?_)
  · (repeat with_reducible first|refine z_f ?_|refine z_k ?_|refine z_l ?_)
    exact ⟨by simp [badP]; omega, rfl⟩
  (repeat with_reducible first|refine z_d ?_|refine z_l ?_)
  refine bi_lss_c (fun h3 => ?_) (fun h3 => ?_)
  · (repeat with_reducible first|refine z_f ?_|refine z_k ?_|refine z_l ?_)
    exact ⟨by simp [badP]; omega, rfl⟩
  (repeat with_reducible first|refine z_d ?_|refine z_l ?_)
  refine bi_gtr_c (fun h4 => ?_) (fun h4 => ?_)
  · (repeat with_reducible first|refine z_l ?_)
    exact ⟨by simp [badP]; omega, rfl⟩
  (repeat with_reducible first|refine z_l ?_)
  exact ⟨by simp [badP]; omega, rfl⟩
def floorOf (F : List (Int × Int)) (id : Int) : Int := (getK id F).getD 0
theorem getK_skip {α : Type} (k : Int) : ∀ (l : List (Int × α)) (i : Nat), (∀ p ∈ l.take i, p.1 ≠ k) → getK k l = getK k (l.drop i)
  | l, 0, _ => rfl
  | [], i + 1, _ => rfl
  | (a, v) :: r, i + 1, h => by
    rw [List.drop_succ_cons, getK, if_neg (fun e => h (a, v) (by simp) e.symm)]
    exact getK_skip k r i fun p hp => h p (by simp [hp])
theorem refFloor_spec {hu : Nat} {c : Nat → Nat} {w : World} {g : Nat} {vL vF : Value} {L : List OneM} {F : List (Int × Int)} (id : Int) (h : RefAt hu c w g vL vF L F) (hl : F.length ≤ 1000000) :
    CallP Tryz.prog 35 #[.pointer (some ⟨g, 0, none⟩), .int .i64 id] (fun r w' => r = .int .i64 (floorOf F id) ∧ w = w') w := by
  refine ⟨S35.calls _ _ _ _ ?_⟩
  unfold S35
  have hF := h.rowF
  have c1 : w.cell? ⟨g, 1, none⟩ = some vF := h.blk.cell 1
  obtain ⟨A, cF, rfl, _, _⟩ := hF.slice
  refine LoopP.inv1 (fun iv w' => ∃ i : Nat, i ≤ F.length ∧ iv = .int .i64 i ∧ (∀ p ∈ F.take i, p.1 ≠ id) ∧ w = w') (fun iv _ => F.length - (intOf iv).toNat) ⟨0, by omega, rfl, by simp, rfl⟩ ?_
  rintro _ _ ⟨i, hi, rfl, hall, rfl⟩ J hJ
  dsimp only [List.headD_cons, List.tail_cons]
  (repeat with_reducible first|refine fd m1 (by decide) ?_|refine ld one43 c1 ?_|refine z_a ?_)
  refine ln und43 ?_
  refine bi_lss_c (fun hlt => ?_) (fun hlt => ?_)
  · have hi' : i < F.length := by omega
    obtain ⟨gF, cF', he, hcell⟩ := rowAt flF_len hF i hi' (by decide)
    cases he
    have d0 : w.cell? ⟨gF, i * 2 + 0, none⟩ = some (.int .i64 F[i].1) := hcell 0 _ rfl
    have d1 : w.cell? ⟨gF, i * 2 + 1, none⟩ = some (.int .i64 F[i].2) := hcell 1 _ rfl
    (repeat with_reducible first|refine fd m1 (by decide) ?_|refine ld one43 c1 ?_|refine ixG und43 sz84 i hi' ?_|refine fdG f0 (by decide) ?_|refine ld one3 d0 ?_|refine z_a ?_|refine z_b ?_)
    refine bi_eql_c (fun he => ?_) (fun he => ?_)
    · (repeat with_reducible first|refine fd m1 (by decide) ?_|refine ld one43 c1 ?_|refine ixG und43 sz84 i hi' ?_|refine fdG f1 (by decide) ?_|refine ld one3 d1 ?_|refine z_a ?_|refine z_b ?_)
      refine ⟨?_, rfl⟩
      have hd : F.drop i = F[i] :: F.drop (i + 1) := List.drop_eq_getElem_cons hi'
      have hp : F[i] = (F[i].1, F[i].2) := rfl
      rw [floorOf, getK_skip id F i hall, hd, hp, getK, if_pos he.symm]
      rfl
    · (repeat with_reducible first|refine z_c ?_|refine z_o (by omega) ?_)
      refine hJ _ _ ⟨i + 1, by omega, by simp, fun p hp => ?_, rfl⟩ (by simp [intOf]; omega)
      rw [List.take_succ_eq_append_getElem hi'] at hp
      rcases List.mem_append.1 hp with hp | hp
      · exact hall p hp
      · simp only [List.mem_cons, List.not_mem_nil, or_false] at hp
        subst hp; exact he
  · (repeat with_reducible first|refine z_c ?_)
    have : i = F.length := by omega
    subst this
    refine ⟨?_, rfl⟩
    rw [List.take_length] at hall
    rw [floorOf, getK_none_of id F hall]; rfl
def knownL (L : List OneM) (id : Int) : List Int := (L.filter fun x => decide (x.cl = id)).map (·.no)
theorem refKnown_spec {hu : Nat} {c : Nat → Nat} {w : World} {g : Nat} {vL vF : Value} {L : List OneM} {F : List (Int × Int)} (id : Int) (h : RefAt hu c w g vL vF L F) (hl : L.length ≤ 100000) :
    CallP Tryz.prog 38 #[.pointer (some ⟨g, 0, none⟩), .int .i64 id] (fun r w' => Own 3 w' r ((knownL L id).map (Value.int .i64)) ∧ Fresh w.heap.size r ∧ Below w.heap.size w w') w := by
  refine ⟨S38.calls _ _ _ _ ?_⟩
  unfold S38
  have hL0 := h.rowL
  obtain ⟨A, cL, rfl, _, _⟩ := hL0.slice
  refine LoopP.inv2 (fun rv iv w' => ∃ i : Nat, i ≤ L.length ∧ iv = .int .i64 i ∧ Own 3 w' rv ((knownL (L.take i) id).map (Value.int .i64)) ∧ Fresh w.heap.size rv ∧ Below w.heap.size w w') (fun _ iv _ => L.length - (intOf iv).toNat)
    ⟨0, by omega, rfl, by simpa [knownL] using Own.nil 3 w, Fresh.nil _, Below.refl _ _⟩ ?_
  rintro rv _ w1 ⟨i, hi, rfl, hown, hfr, hb1⟩ J hJ
  dsimp only [List.headD_cons, List.tail_cons]
  have h1 := h.below hb1
  have hL := h1.rowL
  have c0 : w1.cell? ⟨g, 0, none⟩ = some (.slice A L.length cL) := h1.blk.cell 0
  (repeat with_reducible first|refine fd m0 (by decide) ?_|refine ld one42 c0 ?_|refine z_a ?_)
  refine ln und42 ?_
  refine bi_lss_c (fun hlt => ?_) (fun hlt => ?_)
  · have hi' : i < L.length := by omega
    obtain ⟨gL, cL', he, hcell⟩ := rowAt oneF_len hL i hi' (by decide)
    cases he
    have d0 : w1.cell? ⟨gL, i * 7 + 0, none⟩ = some (.int .i64 L[i].cl) := hcell 0 _ rfl
    have d1 : w1.cell? ⟨gL, i * 7 + 1, none⟩ = some (.int .i64 L[i].no) := hcell 1 _ rfl
    have hstep : knownL (L.take (i + 1)) id = knownL (L.take i) id ++ (if L[i].cl = id then [L[i].no] else []) := by
      unfold knownL
      rw [List.take_succ_eq_append_getElem hi', List.filter_append, List.map_append]
      congr 1
      by_cases e : L[i].cl = id
      · simp [e]
      · simp [e]
    (repeat with_reducible first|refine z_b ?_)
    refine JoinP.cut (fun xs w' => ∃ rv', xs = [rv'] ∧ Own 3 w' rv' ((knownL (L.take (i + 1)) id).map (Value.int .i64)) ∧ Fresh w.heap.size rv' ∧ Below w.heap.size w w') (fun J1 hJ1 => ?_) (fun xs w' hI => ?_)
    · (repeat with_reducible first|refine fd m0 (by decide) ?_|refine ld one42 c0 ?_|refine ixG und42 sz73 i hi' ?_|refine fdG o0 (by decide) ?_|refine ld one3 d0 ?_|refine z_a ?_)
      refine bi_eql_c (fun he => ?_) (fun he => ?_)
      · (repeat with_reducible first|refine fd m0 (by decide) ?_|refine ld one42 c0 ?_|refine ixG und42 sz73 i hi' ?_|refine fdG o1 (by decide) ?_|refine ld one3 d1 ?_|refine z_a ?_|refine z_b ?_)
        refine lift (v := .slice (some ⟨w1.heap.size, 0, none⟩) 1 1) (w' := w1.alloc (.cells #[.int .i64 L[i].no] 3)) (by kernel_rfl) ?_
        have hb2 := (Below.refl w1.heap.size w1).alloc (Nat.le_refl _) (.cells #[.int .i64 L[i].no] 3)
        have hx : Rd (w1.alloc (.cells #[.int .i64 L[i].no] 3)) (.slice (some ⟨w1.heap.size, 0, none⟩) 1 1) [.int .i64 L[i].no] := (Own.new w1 3 [.int .i64 L[i].no] (by simp)).rd
        have hs1 := hb1.size
        have hs2 := hb2.size
        have hlk : (knownL (L.take i) id).length ≤ L.length := by
          unfold knownL
          rw [List.length_map]
          exact Nat.le_trans (List.length_filter_le _ _) (by rw [List.length_take]; omega)
        refine apF w.heap.size und51 inf3 (by rfl) (by decide) (hown.below hb2) hfr (by omega) hx (by simp [Value.oneCell']) (by simp; omega) ?_
        intro rv2 w2 ho2 hf2 hb3 _
        refine hJ1 _ _ ⟨rv2, rfl, ?_, hf2, hb1.trans ((hb2.mono hs1).trans hb3)⟩
        rw [hstep, if_pos he, List.map_append]
        exact ho2
      · (repeat with_reducible first|refine z_c ?_)
        refine hJ1 _ _ ⟨rv, rfl, ?_, hfr, hb1⟩
        rw [hstep, if_neg he, List.append_nil]; exact hown
    · obtain ⟨rv', rfl, ho, hf, hb⟩ := hI
      dsimp only [List.headD_cons, List.tail_cons]
      (repeat with_reducible first|refine z_o (by omega) ?_)
      exact hJ _ _ _ ⟨i + 1, by omega, by simp, ho, hf, hb⟩ (by simp [intOf]; omega)
  · (repeat with_reducible first|refine z_c ?_)
    have : i = L.length := by omega
    subst this
    rw [List.take_length] at hown
    exact ⟨hown, hfr, hb1⟩
end Go.Proofs.YtmnaggdhkggjhaaGreatDoor.E
