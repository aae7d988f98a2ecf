import Derived.Test.YtmnaggdhkggjhaaGreatDoorMn
namespace Go.Proofs.YtmnaggdhkggjhaaGreatDoor.E
open Go Go.Proofs Go.RowKit Classical
set_option linter.unusedSimpArgs false
set_option linter.unusedVariables false

theorem good_of {x : ValT} (h : goodV x = true) : Pl.goodV x = true := by
  unfold goodV at h
  unfold Pl.goodV
  rw [decide_eq_true_eq]
  split at h
  · rename_i h0
    have e := (sameV_iff _ _).1 h
    exact .inl ⟨h0, by rw [e], by rw [e]⟩
  · split at h
    · rename_i h1
      exact .inr (.inl ⟨h1, of_decide_eq_true h⟩)
    · split at h
      · rename_i h2
        rw [Bool.and_eq_true] at h
        exact .inr (.inr ⟨h2, of_decide_eq_true h.1, of_decide_eq_true h.2⟩)
      · cases h
theorem rec_of {vs : List ValT} (h : chk vs = 0) : Pl.recE vs = 0 := by
  unfold chk at h
  unfold Pl.recE Pl.rowE
  by_cases h0 : vs.length = 0
  · simp [firstP, h0] at h
  by_cases h4 : 4 < vs.length
  · simp [firstP, h0, h4] at h
  rw [if_neg h0, if_neg h4]
  by_cases hg : (vs.any fun x => !goodV x) = true
  · simp only [firstP, h0, h4, hg] at h
    simp at h
  · rw [if_pos]
    rw [List.all_eq_true]
    intro x hx
    refine good_of ?_
    apply Classical.byContradiction
    intro hn
    apply hg
    rw [List.any_eq_true]
    exact ⟨x, hx, by simpa using hn⟩
/-- What is known of a client, and may be saved. -/
structure SvC (v : VC) : Prop where
  full : 0 < v.1 → v.2.length = 4
  el : ∀ q ∈ v.2, Num40 q.2.1.code ∧ Num40 q.2.1.id ∧ recOk q.2.2
def SvV (V : Int → VC) : Prop := ∀ id, SvC (V id)
theorem svV0 : SvV V0 := fun id => ⟨fun h => absurd h (by simp [V0]), fun q hq => by simp [V0] at hq⟩
theorem SvC.put {v : VC} (h : SvC v) (hg : GoodV v) {n : Int} {x : Rm} (hx : Num40 x.1.code ∧ Num40 x.1.id ∧ recOk x.2) : SvC (putV v n x) := by
  have hl := insK_len n x v.2
  have hm : ∀ p ∈ insK n x v.2, p = (n, x) ∨ p ∈ v.2 := fun p hp => List.mem_cons.1 ((insK_perm n x v.2).mem_iff.1 hp)
  have hel : ∀ q ∈ insK n x v.2, Num40 q.2.1.code ∧ Num40 q.2.1.id ∧ recOk q.2.2 := fun q hq => by
    rcases hm q hq with rfl | hq
    · exact hx
    · exact h.el q hq
  have h4 := hg.len
  unfold putV cutV
  cases he : insK n x v.2 with
  | nil => rw [he] at hl; simp at hl
  | cons p r =>
    rw [he] at hl hel
    simp only [List.length_cons] at hl
    simp only
    split
    · rename_i hb
      simp only [List.length_cons] at hb
      exact ⟨fun _ => by simp only; omega, fun q hq => hel q (List.mem_cons_of_mem _ hq)⟩
    · rename_i hb
      simp only [List.length_cons] at hb
      refine ⟨fun hf => ?_, hel⟩
      have := h.full hf
      omega
theorem SvV.keep {V : Int → VC} (h : SvV V) (hg : ∀ id, GoodV (V id)) (id n : Int) (R : Rep) (vs : List ValT) (rows : Nat) (hvs : ∀ x ∈ vs, valOk x) : SvV (keepQ V id n R vs rows).2 := by
  unfold keepQ
  split
  · exact h
  · rename_i harg
    split
    · exact h
    · split
      · exact h
      · intro i
        show SvC (setV V id (putV (V id) n (R, vs)) i)
        unfold setV
        split
        · refine (h id).put (hg id) ?_
          have ha : argP id n R vs rows = false := by simpa using harg
          unfold argP at ha
          simp only [Bool.or_eq_false_iff, Bool.not_eq_false', decide_eq_true_eq, Bool.and_eq_false_iff, decide_eq_false_iff_not] at ha
          obtain ⟨⟨⟨_, hc⟩, hi⟩, hr⟩ := ha
          refine ⟨hc, hi, ?_, hvs⟩
          rcases hr with hr | hr
          · exact .inl (List.length_eq_zero_iff.1 (by show vs.length = 0; omega))
          · exact .inr (rec_of (by show chk vs = 0; exact Classical.not_not.1 hr))
        · exact h i
/-- The rows of a table's text, told by the views of its clients. -/
structure LstV (L : Lst) (V : Int → VC) : Prop where
  rise : Rising L
  row : ∀ p ∈ L, RowOk p
  mem : ∀ p ∈ L, p.2 = V p.1
  all : ∀ id, (V id).2 ≠ [] → (id, V id) ∈ L
  zero : ∀ id, (V id).2 = [] → V id = (0, [])
theorem LstV.eq_iff {L M : Lst} {V U : Int → VC} (h : LstV L V) (h' : LstV M U) : L = M ↔ V = U := by
  constructor
  · intro e
    subst e
    funext id
    by_cases hv : (V id).2 = []
    · by_cases hu : (U id).2 = []
      · rw [h.zero id hv, h'.zero id hu]
      · exact absurd hv (by have := h.mem _ (h'.all id hu); simp only at this; rw [← this]; exact hu)
    · exact h'.mem _ (h.all id hv)
  · intro e
    subst e
    have nd : ∀ {L : Lst}, Rising L → L.Nodup := fun hr => hr.imp fun hlt e => by rw [e] at hlt; omega
    refine rising_eq h.rise h'.rise ((List.perm_ext_iff_of_nodup (nd h.rise) (nd h'.rise)).2 fun p => ⟨fun hp => ?_, fun hp => ?_⟩)
    · have e := h.mem p hp
      have := h'.all p.1 (by rw [← e]; exact (h.row p hp).ne)
      rw [← e] at this; exact this
    · have e := h'.mem p hp
      have := h.all p.1 (by rw [← e]; exact (h'.row p hp).ne)
      rw [← e] at this; exact this
theorem LstV.len {L : Lst} {V : Int → VC} (h : LstV L V) (hl : L.length ≤ 100) : (saveT L).length ≤ 200000 := by
  have hrow : ∀ p ∈ L, (saveCl p).length ≤ 1218 := fun p hp => by
    have hp := h.row p hp
    obtain ⟨a0, a1⟩ := hp.id
    obtain ⟨f0, f1⟩ := hp.fl
    have h4 := hp.len
    have n1 := num_six (n := p.1.toNat) (by omega)
    have n2 := num_six (n := p.2.1.toNat) (by omega)
    have n3 := num_six (n := p.2.2.length) (by omega)
    have := flat_len_le saveR (fun _ => 300) p.2.2 fun q hq => by
      obtain ⟨⟨g1, g2, g3⟩, _⟩ := hp.el q hq
      exact saveR_len ⟨g1, g2, g3⟩
    have e : (p.2.2.map fun _ => 300).sum = p.2.2.length * 300 := sum_const 300 _
    unfold saveCl
    simp only [List.length_append]
    omega
  have h1 := flat_len_le saveCl (fun _ => 1218) L hrow
  have e : (L.map fun _ => 1218).sum = L.length * 1218 := sum_const 1218 _
  have n0 := num_six (n := L.length) (by omega)
  unfold saveT
  rw [List.length_append]
  omega
theorem saveT_iff {L M : Lst} {V U : Int → VC} (h : LstV L V) (h' : LstV M U) (hl : L.length ≤ 100) (hm : M.length ≤ 100) : saveT L = saveT M ↔ V = U := by
  rw [← h.eq_iff h']
  constructor
  · intro e
    have e1 := load_back h.rise h.row (by have := h.len hl; omega)
    have e2 := load_back h'.rise h'.row (by have := h'.len hm; omega)
    rw [e, e2] at e1
    exact (Option.some.inj e1).symm
  · intro e
    rw [e]
theorem cliV_of {C : Cli} {v : VC} (h : Sees C v) (hg : GoodV v) : cliV C = v := by
  unfold cliV
  rw [srt_of_perm h.l hg.rise, h.fl]
theorem sum_le {α : Type} (f b : α → Nat) : ∀ l : List α, (∀ x ∈ l, f x ≤ b x) → (l.map f).sum ≤ (l.map b).sum
  | [], _ => by simp
  | x :: l, h => by
    have := sum_le f b l fun y hy => h y (List.mem_cons_of_mem _ hy)
    have := h x (List.mem_cons_self ..)
    rw [List.map_cons, List.map_cons, List.sum_cons, List.sum_cons]
    omega
theorem TabV.lst {hu : Nat} {c : Nat → Nat} {w : World} {g : Nat} {V : Int → VC} {N : Nat} (h : TabV hu c w g V N) (hin : InP V) (hs : SvV V) (hN : N ≤ 1000) :
    ∃ T, TabC hu c w g T ∧ SvOk T ∧ LstV (lstT T) V ∧ (lstT T).length ≤ N := by
  obtain ⟨T, h1, ⟨h2, h3⟩, h4⟩ := h.out
  have hnd : (T.map (·.1)).Nodup := by
    obtain ⟨bm, h1'⟩ := h1
    have := h1'.map.nodup
    rwa [List.map_map] at this
  have hsee : ∀ p ∈ T, Sees p.2 (V p.1) := fun p hp => by
    have hx : getK p.1 T = some p.2 := getK_of_mem hnd hp
    have := h4 p.1
    rw [hx] at this
    exact this
  have hcl : ∀ p ∈ T, cliV p.2 = V p.1 := fun p hp => cliV_of (hsee p hp) (h.good p.1)
  have hne : ∀ p ∈ T, (V p.1).2 ≠ [] := fun p hp e => by
    have := (hsee p hp).l
    rw [e] at this
    have := List.Perm.eq_nil this
    exact h3 p hp (by simpa [absL] using this)
  have hlen : ∀ p ∈ T, p.2.l.length ≤ 4 := fun p hp => by
    have := (hsee p hp).l.length_eq
    rw [absL, List.length_map] at this
    have := (h.good p.1).len
    omega
  have hmem : ∀ p ∈ lstT T, p.2 = V p.1 ∧ p.1 ∈ T.map (·.1) := fun p hp => by
    unfold lstT at hp
    obtain ⟨q, hq, rfl⟩ := List.mem_map.1 hp
    have hq := (srt_perm T).mem_iff.1 hq
    exact ⟨hcl q hq, List.mem_map.2 ⟨q, hq, rfl⟩⟩
  have hkey : ∀ id, id ∈ T.map (·.1) → (id, V id) ∈ lstT T := fun id hid => by
    obtain ⟨q, hq, rfl⟩ := List.mem_map.1 hid
    exact List.mem_map.2 ⟨q, (srt_perm T).mem_iff.2 hq, by rw [hcl q hq]⟩
  have hel : ∀ id, ∀ q ∈ (V id).2, okQ q ∧ recOk q.2.2 := fun id q hq => by
    obtain ⟨k0, k1⟩ := (h.good id).key q hq
    obtain ⟨e1, e2, e3⟩ := (hs id).el q hq
    exact ⟨⟨⟨by omega, k1⟩, e1, e2⟩, e3⟩
  refine ⟨T, h1, ⟨by omega, ?_, fun p hp => ⟨hin _ (hne p hp), ?_, fun q hq => ?_⟩⟩, ⟨?_, fun p hp => ?_, fun p hp => (hmem p hp).1, fun id hid => hkey id ?_, fun id hid => ?_⟩, ?_⟩
  · have : (T.map fun p => p.2.l.length).sum ≤ (T.map fun _ => 4).sum := sum_le (fun p : Int × Cli => p.2.l.length) (fun _ => 4) T hlen
    have e : (T.map fun _ => 4).sum = T.length * 4 := sum_const 4 _
    omega
  · rw [(hsee p hp).fl]; exact (h.good p.1).fl
  · have hq' : (q.1, q.2.abs) ∈ (V p.1).2 := (hsee p hp).l.mem_iff.1 (List.mem_map.2 ⟨q, hq, rfl⟩)
    exact (hel p.1 _ hq').1
  · have hr := srt_rising hnd
    unfold lstT
    unfold Rising at hr ⊢
    rw [List.pairwise_map]
    exact hr
  · obtain ⟨e, hk⟩ := hmem p hp
    obtain ⟨q, hq, e2⟩ := List.mem_map.1 hk
    have hg := h.good p.1
    have hv := hne q hq
    rw [show q.1 = p.1 from e2] at hv
    obtain ⟨id, v⟩ := p
    simp only at e hg hv hk ⊢
    subst e
    exact ⟨hin id hv, hg.fl, hv, hg.len, (hs id).full, hg.rise, hg.above, hel id⟩
  · have := h4 id
    cases hg : getK id T with
    | none => rw [hg] at this; exact absurd (by rw [show V id = (0, []) from this]) hid
    | some C => exact List.mem_map.2 ⟨(id, C), getK_mem _ _ _ hg, rfl⟩
  · have := h4 id
    cases hg : getK id T with
    | none => rw [hg] at this; exact this
    | some C => exact absurd hid (hne _ (getK_mem _ _ _ hg))
  · unfold lstT
    rw [List.length_map, srt_len]
    exact h2
/-- What is loaded from a table's text is that table. -/
theorem TabV.loaded {hu : Nat} {c : Nat → Nat} {w : World} {g : Nat} {V : Int → VC} {T : List (Int × Cli)} {L : Lst} {N : Nat} (ht : TabC hu c w g T) (ha : absT T = L) (hL : LstV L V) (hg : ∀ id, GoodV (V id)) (hN : L.length ≤ N) : TabV hu c w g V N := by
  have hget : ∀ id, (getK id T).map absC = getK id L := fun id => by
    rw [← ha, absT, getK_map absC]
  refine ⟨hg, T, ht, ⟨?_, fun p hp e => ?_⟩, fun id => ?_⟩
  · have : L.length = T.length := by rw [← ha, absT, List.length_map]
    omega
  · have hm : (p.1, absC p.2) ∈ L := by rw [← ha]; exact List.mem_map.2 ⟨p, hp, rfl⟩
    have := (hL.row _ hm).ne
    exact this (by simp [absC, absL, e])
  · have hx := hget id
    cases hgk : getK id T with
    | none =>
      rw [hgk] at hx
      refine hL.zero id ?_
      apply Classical.byContradiction
      intro hne
      have := getK_of_mem hL.rise.nodup (hL.all id hne)
      rw [← hx] at this
      cases this
    | some C =>
      rw [hgk] at hx
      have hm := hL.mem _ (getK_mem _ _ _ hx.symm)
      simp only at hm
      show Sees C (V id)
      rw [← hm]
      exact ⟨rfl, List.Perm.refl _⟩
theorem ofCl_abs (L : List OneM) (id : Int) : ofCl L id = ((L.map absO).filter fun x => decide (x.1 = id)).map fun x => (x.2.1, x.2.2) := by
  unfold ofCl
  rw [List.filter_map, List.map_map]
  rfl
theorem sorted_abs {L : List OneM} (h : L.Pairwise fun y x => ltO y x = true) : (L.map absO).Pairwise fun y x => y.1 < x.1 ∨ (y.1 = x.1 ∧ y.2.1 < x.2.1) := by
  rw [List.pairwise_map]
  refine h.imp fun {y x} hlt => ?_
  simp only [ltO, Bool.or_eq_true, Bool.and_eq_true, decide_eq_true_eq] at hlt
  exact hlt
theorem sorted_eq : ∀ {l m : List (Int × Int × Rm)}, (l.Pairwise fun y x => y.1 < x.1 ∨ (y.1 = x.1 ∧ y.2.1 < x.2.1)) → (m.Pairwise fun y x => y.1 < x.1 ∨ (y.1 = x.1 ∧ y.2.1 < x.2.1)) → (∀ x, x ∈ l ↔ x ∈ m) → l = m
  | [], [], _, _, _ => rfl
  | [], q :: m, _, _, h => absurd ((h q).2 (List.mem_cons_self ..)) (by simp)
  | p :: l, [], _, _, h => absurd ((h p).1 (List.mem_cons_self ..)) (by simp)
  | p :: l, q :: m, hl, hm, h => by
    obtain ⟨a1, a2⟩ := List.pairwise_cons.1 hl
    obtain ⟨b1, b2⟩ := List.pairwise_cons.1 hm
    have e : p = q := by
      rcases List.mem_cons.1 ((h p).1 (List.mem_cons_self ..)) with e | hp
      · exact e
      rcases List.mem_cons.1 ((h q).2 (List.mem_cons_self ..)) with e | hq
      · exact e.symm
      have := a1 q hq
      have := b1 p hp
      omega
    subst e
    congr 1
    refine sorted_eq a2 b2 fun x => ⟨fun hx => ?_, fun hx => ?_⟩
    · rcases List.mem_cons.1 ((h x).1 (List.mem_cons_of_mem _ hx)) with e | hx'
      · subst e
        have := a1 x hx
        omega
      · exact hx'
    · rcases List.mem_cons.1 ((h x).2 (List.mem_cons_of_mem _ hx)) with e | hx'
      · subst e
        have := b1 x hx
        omega
      · exact hx'
theorem mem_abs (L : List OneM) (x : Int × Int × Rm) : x ∈ L.map absO ↔ (x.2.1, x.2.2) ∈ ofCl L x.1 := by
  rw [ofCl_abs]
  constructor
  · intro h
    exact List.mem_map.2 ⟨x, List.mem_filter.2 ⟨h, by simp⟩, rfl⟩
  · intro h
    obtain ⟨y, hy, e⟩ := List.mem_map.1 h
    obtain ⟨h1, h2⟩ := List.mem_filter.1 hy
    have h2 := of_decide_eq_true h2
    obtain ⟨a, b, r⟩ := x
    obtain ⟨a', b', r'⟩ := y
    simp only [Prod.mk.injEq] at e h2
    rw [← h2, ← e.1, ← e.2]
    exact h1
theorem mem_F {L : List OneM} {F : List (Int × Int)} {V : Int → VC} (h : Refines L F V) (hp : ∀ p ∈ F, 0 < p.2) (x : Int × Int) : x ∈ F ↔ 0 < x.2 ∧ (V x.1).1 = x.2 := by
  have hf := h.fl x.1
  unfold floorOf at hf
  constructor
  · intro hx
    refine ⟨hp x hx, ?_⟩
    rw [← hf, getK_of_mem h.rise.nodup hx]; rfl
  · rintro ⟨h1, h2⟩
    cases hg : getK x.1 F with
    | none => rw [hg] at hf; simp only [Option.getD_none] at hf; omega
    | some v =>
      rw [hg] at hf
      simp only [Option.getD_some] at hf
      have := getK_mem _ _ _ hg
      rw [show v = x.2 by omega] at this
      exact this
theorem refSame_iff {L L' : List OneM} {F F' : List (Int × Int)} {V U : Int → VC} (h : Refines L F V) (h' : Refines L' F' U) (hp : ∀ p ∈ F, 0 < p.2) (hp' : ∀ p ∈ F', 0 < p.2) : (L.map absO = L'.map absO ∧ F = F') ↔ V = U := by
  constructor
  · rintro ⟨e1, e2⟩
    funext id
    refine Prod.ext ?_ ?_
    · rw [← h.fl, ← h'.fl, e2]
    · rw [← h.l, ← h'.l, ofCl_abs, ofCl_abs, e1]
  · intro e
    subst e
    refine ⟨sorted_eq (sorted_abs h.sorted) (sorted_abs h'.sorted) fun x => ?_, ?_⟩
    · rw [mem_abs, mem_abs, h.l, h'.l]
    · have nd : ∀ {L : List (Int × Int)}, Rising L → L.Nodup := fun hr => hr.imp fun hlt e => by rw [e] at hlt; omega
      refine rising_eq h.rise h'.rise ((List.perm_ext_iff_of_nodup (nd h.rise) (nd h'.rise)).2 fun p => ?_)
      rw [mem_F h hp, mem_F h' hp']
theorem refSame_V {h1 h2 : Nat} {c : Nat → Nat} {w : World} {ga gb : Nat} {V U : Int → VC} {N : Nat} (hA : RefV h1 c w ga V N) (hB : RefV h2 c w gb U N) (hN : N ≤ 1000) :
    CallP Tryz.prog 12 #[.pointer (some ⟨ga, 0, none⟩), .pointer (some ⟨gb, 0, none⟩)] (fun r w' => r = .bool (decide (V = U)) ∧ Below w.heap.size w w') w := by
  obtain ⟨vL, vF, L, F, a1, a2, a3, a4, a5⟩ := hA.out
  obtain ⟨vL', vF', L', F', b1, b2, b3, b4, b5⟩ := hB.out
  refine (refSame12 a1 b1 (by omega) (by omega)).mono ?_
  rintro _ w' ⟨rfl, hb⟩
  refine ⟨?_, hb⟩
  congr 1
  exact decide_eq_decide.2 (refSame_iff a2 b2 a5 b5)
end Go.Proofs.YtmnaggdhkggjhaaGreatDoor.E
