import Derived.Test.YtmnaggdhkggjhaaM4
import Derived.Test.YtmnaggdhkggjhaaM3
import Derived.Test.YtmnaggdhkggjhaaS2
/- The table, told by its clients' views: New, Look, Keep, Floor. -/
namespace Go.Proofs.Ytmnaggdhkggjhaa.E
open Go Go.RowKit
set_option linter.unusedSimpArgs false
set_option linter.unusedVariables false

theorem setK_len {α : Type} {k : Int} {v u : α} : ∀ {l : List (Int × α)}, getK k l = some u → (setK k v l).length = l.length
  | [], h => by cases h
  | (a, x) :: r, h => by
    rw [getK] at h
    rw [setK]
    split at h
    · rename_i hk; rw [if_pos hk]; rfl
    · rename_i hk; rw [if_neg hk, List.length_cons, setK_len h, List.length_cons]
theorem getK_setK_same {α : Type} {k : Int} {v : α} : ∀ {l : List (Int × α)}, getK k (setK k v l) = some v
  | [] => by simp [setK, getK]
  | (a, x) :: r => by
    rw [setK]
    split
    · simp [getK]
    · rename_i hk; rw [getK, if_neg hk, getK_setK_same]
theorem getK_setK_other {α : Type} {k i : Int} (v : α) : ∀ (l : List (Int × α)), i ≠ k → getK i (setK k v l) = getK i l
  | [], h => by simp [setK, getK, h]
  | (a, x) :: r, h => by
    rw [setK]
    split
    · rename_i hk; subst hk; rw [getK, getK, if_neg h, if_neg h]
    · rw [getK, getK, getK_setK_other v r h]
theorem getK_app_other {α : Type} {k i : Int} (v : α) : ∀ (l : List (Int × α)), i ≠ k → getK i (l ++ [(k, v)]) = getK i l
  | [], h => by simp [getK, h]
  | (a, x) :: r, h => by rw [List.cons_append, getK, getK, getK_app_other v r h]
def SeesO (o : Option Cli) (v : VC) : Prop := match o with
  | none => v = (0, [])
  | some C => Sees C v
/-- A table in memory, in its colour: what is known of each client; there are at most N clients. -/
structure TabV (hu : Nat) (c : Nat → Nat) (w : World) (g : Nat) (V : Int → VC) (N : Nat) : Prop where
  good : ∀ id, GoodV (V id)
  out : ∃ T, TabC hu c w g T ∧ T.length ≤ N ∧ ∀ id, SeesO (getK id T) (V id)
def V0 : Int → VC := fun _ => (0, [])
def setV (V : Int → VC) (id : Int) (v : VC) : Int → VC := fun i => if i = id then v else V i
theorem setV_same (V : Int → VC) (id : Int) (v : VC) : setV V id v id = v := by simp [setV]
theorem setV_other (V : Int → VC) {id i : Int} (v : VC) (h : i ≠ id) : setV V id v i = V i := by simp [setV, h]
section
variable {hu : Nat} {c c' : Nat → Nat} {w w' : World} {g : Nat} {V : Int → VC} {N : Nat}
theorem TabV.turns {F : Nat → Prop} (h : TabV hu c w g V N) (hT : Turns F w w') (hF : ∀ k, F k → c k % 1000 ≠ hu) : TabV hu c w' g V N := by
  obtain ⟨T, h1, h2⟩ := h.out
  exact ⟨h.good, T, h1.turns hT hF, h2⟩
theorem TabV.below (h : TabV hu c w g V N) (hb : Below w.heap.size w w') : TabV hu c w' g V N := by
  obtain ⟨T, h1, h2⟩ := h.out
  exact ⟨h.good, T, h1.below hb, h2⟩
theorem TabV.re (h : TabV hu c w g V N) (hc : ∀ k, k < w.heap.size → c' k = c k) : TabV hu c' w g V N := by
  obtain ⟨T, h1, h2⟩ := h.out
  exact ⟨h.good, T, h1.re hc, h2⟩
theorem TabV.mono (h : TabV hu c w g V N) {M : Nat} (hm : N ≤ M) : TabV hu c w g V M := by
  obtain ⟨T, h1, h2, h3⟩ := h.out
  exact ⟨h.good, T, h1, by omega, h3⟩
theorem TabV.hh (h : TabV hu c w g V N) : 0 < hu ∧ hu < 1000 := by
  obtain ⟨T, ⟨bm, h1⟩, _⟩ := h.out
  exact h1.hh
theorem TabV.other {hu2 : Nat} (h : TabV hu2 c w g V N) (hT : Turns (Dh hu c) w w') (hne : hu ≠ hu2) (hc : ∀ k, k < w.heap.size → c' k = c k) : TabV hu2 c' w' g V N := by
  refine (h.re hc).turns (F := fun k => Dh hu c k ∧ k < w.heap.size) ⟨hT.os, hT.tape, hT.output, hT.size, fun k hk hF => hT.block k hk fun e => hF ⟨e, hk⟩⟩ fun k hk => ?_
  rw [hc k hk.2, hk.1]; exact hne
end
theorem New_V (hu : Nat) (hh : 0 < hu ∧ hu < 1000) (c : Nat → Nat) (w : World) : CallP Try.prog 10 #[] (fun r w' => ∃ g c', r = .pointer (some ⟨g, 0, none⟩) ∧ (∀ k, k < w.heap.size → c' k = c k) ∧ TabV hu c' w' g V0 0 ∧ Below w.heap.size w w') w := by
  refine (New_tab hu hh c w).mono ?_
  rintro _ w' ⟨g, c', rfl, h1, h2, h3⟩
  exact ⟨g, c', rfl, h1, ⟨fun _ => goodV0, [], h2, by simp, fun _ => rfl⟩, h3⟩
/-! ### Look -/
def lookQ (V : Int → VC) (id n : Int) : Int × Option Rm := if badP id n then (1, none) else lookV (V id) n
theorem lookP_V {T : List (Int × Cli)} {V : Int → VC} (hg : ∀ id, GoodV (V id)) (h : ∀ id, SeesO (getK id T) (V id)) (id n : Int) : (lookP T id n).1 = (lookQ V id n).1 ∧ (lookP T id n).2.map Rp.abs = (lookQ V id n).2 := by
  unfold lookP lookQ
  split
  · exact ⟨rfl, rfl⟩
  · rename_i hbad
    have hn : 1 ≤ n := by
      simp only [badP, Bool.not_eq_true, Bool.not_eq_false', Bool.and_eq_true, decide_eq_true_eq] at hbad
      omega
    have h1 := h id
    cases hx : getK id T with
    | none =>
      rw [hx] at h1
      have h1 : V id = (0, []) := h1
      rw [h1, lookV, if_neg (by simp only; omega)]
      exact ⟨rfl, rfl⟩
    | some C =>
      rw [hx] at h1
      have h1 : Sees C (V id) := h1
      have h2 := h1.get (hg id) n
      unfold lookV
      simp only
      rw [← h2, h1.fl]
      split
      · exact ⟨rfl, rfl⟩
      · cases getK n C.l <;> exact ⟨rfl, rfl⟩
def toldQR (o : Option Rm) : Rep := (o.map (·.1)).getD zeroRep
def toldQV (o : Option Rm) : List ValT := (o.map (·.2)).getD []
/-- What a look tells: the error; a reply with values of its own. -/
def LookQ (w : World) (o : Int × Option Rm) (r : Value) (w' : World) : Prop :=
  ∃ p', r = .tuple #[.agg ((toldQR o.2).cells p' (.slice none 0 0)), .int .i64 o.1] ∧ OwnS 3 36 w' p' (toldQV o.2).length ((toldQV o.2).flatMap valF) ∧ Fresh w.heap.size p' ∧ Below w.heap.size w w'
theorem Look_V {hu : Nat} {c : Nat → Nat} {w : World} {g : Nat} {V : Int → VC} {N : Nat} (id n : Int) (h : TabV hu c w g V N) :
    CallP Try.prog 12 #[.pointer (some ⟨g, 0, none⟩), .int .i64 id, .int .i64 n] (LookQ w (lookQ V id n)) w := by
  obtain ⟨T, h1, h2, h3⟩ := h.out
  refine (Look_tab c w g T id n h1).mono ?_
  rintro _ w' ⟨p', rfl, ho, hf, hb⟩
  obtain ⟨e1, e2⟩ := lookP_V h.good h3 id n
  have eR : toldQR (lookQ V id n).2 = toldR (lookP T id n).2 := by rw [← e2]; cases (lookP T id n).2 <;> rfl
  have eV : toldQV (lookQ V id n).2 = toldV (lookP T id n).2 := by rw [← e2]; cases (lookP T id n).2 <;> rfl
  unfold LookQ
  rw [eR, eV, ← e1]
  exact ⟨p', rfl, ho, hf, hb⟩
theorem lookV_mem {v : VC} {n : Int} {m : Rm} (h : (lookV v n).2 = some m) : (n, m) ∈ v.2 := by
  unfold lookV at h
  split at h
  · cases h
  · split at h
    · rename_i m' hm
      simp only [Option.some.injEq] at h
      subst h
      exact getK_mem _ _ _ hm
    · cases h
theorem lookQ_ok {V : Int → VC} (hg : ∀ id, GoodV (V id)) (id n : Int) : ∀ x ∈ toldQV (lookQ V id n).2, valOk x := by
  intro x hx
  cases ho : (lookQ V id n).2 with
  | none => rw [ho] at hx; simp [toldQV] at hx
  | some m =>
    rw [ho] at hx
    unfold lookQ at ho
    split at ho
    · cases ho
    · exact (hg id).ok _ (lookV_mem ho) x hx
/-! ### Keep -/
def keepQ (V : Int → VC) (id n : Int) (R : Rep) (vs : List ValT) (rows : Nat) : Int × (Int → VC) :=
  if argP id n R vs rows = true then (1, V) else if (lookQ V id n).1 = 12 then (12, V) else if (lookQ V id n).1 = 0 then (8, V) else (0, setV V id (putV (V id) n (R, vs)))
theorem lookQ_new {V : Int → VC} {id n : Int} (h1 : (lookQ V id n).1 ≠ 1) (h12 : (lookQ V id n).1 ≠ 12) (h0 : (lookQ V id n).1 ≠ 0) : (0 ≤ id ∧ id ≤ 1099511627776) ∧ (1 ≤ n ∧ n ≤ 1099511627776) ∧ (V id).1 < n ∧ ∀ p ∈ (V id).2, p.1 ≠ n := by
  unfold lookQ at h1 h12 h0
  split at h1
  · exact absurd rfl h1
  · rename_i hbad
    rw [if_neg hbad] at h12 h0
    unfold lookV at h12 h0
    split at h12
    · exact absurd rfl h12
    · rename_i hle
      rw [if_neg hle] at h0
      simp only [badP, Bool.not_eq_true, Bool.not_eq_false', Bool.and_eq_true, decide_eq_true_eq] at hbad
      refine ⟨hbad.1, hbad.2, by omega, ?_⟩
      cases hx : getK n (V id).2 with
      | none => exact getK_none_mem _ _ hx
      | some m => rw [hx] at h0; exact absurd rfl h0
theorem argP_bad {id n : Int} {R : Rep} {vs : List ValT} {rows : Nat} (h : argP id n R vs rows = false) : badP id n = false := by
  unfold argP at h
  cases hb : badP id n
  · rfl
  · rw [hb] at h; simp at h
theorem lookQ_bad {V : Int → VC} {id n : Int} (h : badP id n = false) : (lookQ V id n).1 ≠ 1 := by
  rw [lookQ, if_neg (by rw [h]; exact Bool.false_ne_true)]
  unfold lookV
  split
  · decide
  · split <;> simp
theorem keepQ_good {V : Int → VC} (hg : ∀ id, GoodV (V id)) (id n : Int) (R : Rep) (vs : List ValT) (rows : Nat) (hvs : ∀ x ∈ vs, valOk x) : ∀ i, GoodV ((keepQ V id n R vs rows).2 i) := by
  intro i
  unfold keepQ
  split
  · exact hg i
  · rename_i harg
    split
    · exact hg i
    · rename_i h12
      split
      · exact hg i
      · rename_i h0
        obtain ⟨_, h2, h3, h4⟩ := lookQ_new (lookQ_bad (argP_bad (by simpa using harg))) h12 h0
        simp only [setV]
        split
        · exact putV_good (hg id) h3 h2 h4 hvs
        · exact hg i
theorem Keep_V {hu : Nat} {c : Nat → Nat} {w : World} {g : Nat} {V : Int → VC} {N : Nat} (id n : Int) (R : Rep) (p q : Value) (vs : List ValT) (rows : List RowT) (h : TabV hu c w g V N)
    (hp : Vals w [p] vs) (hpc : vs = [] ∨ ∀ k, p.ownBlock = some k → c k % 1000 ≠ hu) (hq : RowsR w [q] rows) (hvl : vs.length ≤ 1000) (hN : N < 1000000) :
    CallP Try.prog 11 #[.pointer (some ⟨g, 0, none⟩), .int .i64 id, .int .i64 n, .agg (R.cells p q)]
      (fun r w' => r = .int .i64 (keepQ V id n R vs rows.length).1 ∧ ∃ c', (∀ k, k < w.heap.size → c' k = c k) ∧ TabV hu c' w' g (keepQ V id n R vs rows.length).2 (N + 1) ∧ Turns (Dh hu c) w w') w := by
  obtain ⟨T, h1, h2, h3⟩ := h.out
  have hg := h.good
  have hlenC : ∀ C, (id, C) ∈ T → C.l.length ≤ 100000 := by
    intro C hC
    obtain ⟨bm, hT⟩ := h1
    have hnd : (T.map (·.1)).Nodup := by
      have := hT.map.nodup
      rwa [List.map_map] at this
    have := h3 id
    rw [getK_of_mem hnd hC] at this
    have hs : Sees C (V id) := this
    have := hs.l.length_eq
    have h4 := (hg id).len
    simp only [absL, List.length_map] at this
    omega
  have hvs := vals_ok hp
  have hgood := keepQ_good hg id n R vs rows.length hvs
  refine (Keep_tab c w g T id n R p q vs rows h1 hp hpc hq hvl (by omega) hlenC).mono ?_
  intro r w' hk
  obtain ⟨e1, e2⟩ := lookP_V hg h3 id n
  unfold KeepPost at hk
  have leave : ∀ {e : Int}, r = .int .i64 e ∧ LeftT hu c w g T w' → keepQ V id n R vs rows.length = (e, V) → r = .int .i64 (keepQ V id n R vs rows.length).1 ∧ ∃ c', (∀ k, k < w.heap.size → c' k = c k) ∧ TabV hu c' w' g (keepQ V id n R vs rows.length).2 (N + 1) ∧ Turns (Dh hu c) w w' := by
    rintro e ⟨rfl, c', hc, hT, hTu⟩ hke
    rw [hke]
    exact ⟨rfl, c', hc, ⟨hg, T, hT, by omega, h3⟩, hTu⟩
  by_cases harg : argP id n R vs rows.length = true
  · rw [if_pos harg] at hk
    exact leave hk (by rw [keepQ, if_pos harg])
  rw [if_neg harg, e1] at hk
  by_cases h12 : (lookQ V id n).1 = 12
  · rw [if_pos h12] at hk
    exact leave hk (by rw [keepQ, if_neg harg, if_pos h12])
  rw [if_neg h12] at hk
  by_cases h0 : (lookQ V id n).1 = 0
  · rw [if_pos h0] at hk
    exact leave hk (by rw [keepQ, if_neg harg, if_neg h12, if_pos h0])
  rw [if_neg h0] at hk
  have hke : keepQ V id n R vs rows.length = (0, setV V id (putV (V id) n (R, vs))) := by rw [keepQ, if_neg harg, if_neg h12, if_neg h0]
  obtain ⟨rfl, C, T1, p', hx, hT1, c', hc, hT, hTu⟩ := hk
  rw [hke] at hgood ⊢
  obtain ⟨_, hn2, hn3, hn4⟩ := lookQ_new (lookQ_bad (argP_bad (by simpa using harg))) h12 h0
  have hsee : Sees C (V id) := by
    have := h3 id
    cases hg0 : getK id T with
    | none =>
      rw [hg0] at hT1 this
      have hv : V id = (0, []) := this
      rw [hv]
      exact ⟨hT1.2.1, by rw [hT1.2.2]; exact List.Perm.refl _⟩
    | some C0 =>
      rw [hg0] at hT1 this
      rw [hT1.2]; exact this
  refine ⟨rfl, c', hc, ⟨hgood, _, hT, ?_, fun i => ?_⟩, hTu⟩
  · have hl1 : T1.length ≤ N + 1 := by
      cases hg0 : getK id T with
      | none => rw [hg0] at hT1; rw [hT1.1]; simp; omega
      | some C0 => rw [hg0] at hT1; rw [hT1.1]; omega
    rw [setK_len hx]; exact hl1
  · by_cases hi : i = id
    · subst hi
      show SeesO _ (setV V i _ i)
      rw [setV_same, getK_setK_same]
      exact hsee.put (hg i) (m := ⟨R, p', vs⟩) hn3 hn4 C.gc C.br
    · show SeesO _ (setV V id _ i)
      rw [setV_other _ _ hi, getK_setK_other _ _ hi]
      have := h3 i
      cases hg0 : getK id T with
      | none =>
        rw [hg0] at hT1
        rw [hT1.1, getK_app_other _ _ hi]; exact this
      | some C0 => rw [hg0] at hT1; rw [hT1.1]; exact this
theorem Floor_V {hu : Nat} {c : Nat → Nat} {w : World} {g : Nat} {V : Int → VC} {N : Nat} (id : Int) (h : TabV hu c w g V N) :
    CallP Try.prog 18 #[.pointer (some ⟨g, 0, none⟩), .int .i64 id] (fun r w' => r = .int .i64 (V id).1 ∧ w = w') w := by
  obtain ⟨T, h1, h2, h3⟩ := h.out
  refine (Floor_tab c w g T id h1).mono ?_
  rintro _ w' ⟨rfl, rfl⟩
  refine ⟨?_, rfl⟩
  have := h3 id
  cases hx : getK id T with
  | none =>
    rw [hx] at this
    have hv : V id = (0, []) := this
    rw [hv]; rfl
  | some C =>
    rw [hx] at this
    have hs : Sees C (V id) := this
    rw [← hs.fl]; rfl
end Go.Proofs.Ytmnaggdhkggjhaa.E
/- Light, the comparisons of replies, awake. -/
namespace Go.Proofs.Ytmnaggdhkggjhaa.E
open Go Go.RowKit
set_option linter.unusedSimpArgs false
set_option linter.unusedVariables false

theorem light_spec (v : Value) (vs : List ValT) (w : World) (hv : Vals w [v] vs) :
    CallP Try.prog 9 #[v, .int .i64 300] (fun r w' => ∃ b, r = .bool b ∧ (b = true → vs.length ≤ 301 ∧ (vs.map (·.2.2.1.size)).sum ≤ 300) ∧ w = w') w := by
  obtain ⟨A, c, rfl, hc, hm⟩ := hv.slice
  refine ⟨S9.calls _ _ _ _ ?_⟩
  unfold S9
  refine LoopP.inv2 (fun tv iv w' => ∃ (k t : Nat), k ≤ vs.length ∧ k ≤ 301 ∧ iv = .int .i64 k ∧ tv = .int .i64 t ∧ t = ((vs.take k).map (·.2.2.1.size)).sum ∧ t ≤ 300 ∧ w = w') (fun _ iv _ => vs.length - (intOf iv).toNat) ⟨0, 0, by omega, by omega, rfl, rfl, by simp, by omega, rfl⟩ ?_
  rintro _ _ _ ⟨k, t, hk, hk3, rfl, rfl, ht, ht3, rfl⟩ J hJ
  dsimp only [List.headD_cons, List.tail_cons]
  refine ln und23 ?_
  refine bi_lss_c (fun h => ?_) (fun h => ?_)
  · have hk' : k < vs.length := by omega
    obtain ⟨a, us, rfl, hus, hcell, hrd⟩ := rRow.at hv k hk'
    obtain ⟨rfl, hok⟩ := val_cells hrd
    have hc2 : w.cell? ((a.add (k * 3)).add 2) = some (.string vs[k].2.2.1) := hcell 2 _ rfl
    (repeat with_reducible first | refine ixN und23 sz36 k hk' ?_ | refine fdA v2 (by decide) ?_ | refine ld one9 hc2 ?_ | refine nck ?_ | refine cdT ?_ | refine cdF ?_ | refine gdY ?_ | refine gdFT ?_ | refine gdTF ?_ | refine gdU ?_ | refine gaY ?_ | refine gaFT ?_ | refine gaTF ?_ | refine pickT ?_ | refine pickF ?_ | refine bi_lss_t (by omega) ?_ | refine bi_lss_f (by omega) ?_ | refine bi_add64 (by omega) ?_ | refine bi_sub64 (by omega) ?_ | refine bi_eql_t (by omega) ?_ | refine bi_eql_f (by omega) ?_ | refine bi_neq_t (by omega) ?_ | refine bi_neq_f (by omega) ?_ | refine bi_gtr_t (by omega) ?_ | refine bi_gtr_f (by omega) ?_ | refine bi_leq_t (by omega) ?_ | refine bi_leq_f (by omega) ?_ | refine bi_geq_t (by omega) ?_ | refine bi_geq_f (by omega) ?_ | refine bi_xt0 ?_ | refine bi_xt1 ?_ | refine bi_xt2 ?_ | refine bi_xt3 ?_ | refine bi_T ?_ | refine bi_F ?_ | refine bi_not ?_ | refine bi_and ?_ | refine bi_or ?_ | refine bi_xor ?_ | refine bi_shr (by omega) (by decide) ?_ | refine bi_shl (by omega) (by decide) ?_ | refine bi_quo64 (by omega) ?_ | refine bi_rem64 (by omega) ?_ | refine bi_mul64 (by omega) ?_ | refine bi_neg ?_ | refine bi_un_xor32 ?_ | refine bi_add ?_ | refine bi_sub ?_ | refine bi_mul ?_ | refine bi_quo (by decide) ?_ | refine bi_rem (by decide) ?_)
    refine lns und9 ?_
    refine bi_gtr_c (fun h1 => ?_) (fun h1 => ?_)
    · (repeat with_reducible first | refine nck ?_ | refine cdT ?_ | refine cdF ?_ | refine gdY ?_ | refine gdFT ?_ | refine gdTF ?_ | refine gdU ?_ | refine gaY ?_ | refine gaFT ?_ | refine gaTF ?_ | refine pickT ?_ | refine pickF ?_ | refine bi_lss_t (by omega) ?_ | refine bi_lss_f (by omega) ?_ | refine bi_add64 (by omega) ?_ | refine bi_sub64 (by omega) ?_ | refine bi_eql_t (by omega) ?_ | refine bi_eql_f (by omega) ?_ | refine bi_neq_t (by omega) ?_ | refine bi_neq_f (by omega) ?_ | refine bi_gtr_t (by omega) ?_ | refine bi_gtr_f (by omega) ?_ | refine bi_leq_t (by omega) ?_ | refine bi_leq_f (by omega) ?_ | refine bi_geq_t (by omega) ?_ | refine bi_geq_f (by omega) ?_ | refine bi_xt0 ?_ | refine bi_xt1 ?_ | refine bi_xt2 ?_ | refine bi_xt3 ?_ | refine bi_T ?_ | refine bi_F ?_ | refine bi_not ?_ | refine bi_and ?_ | refine bi_or ?_ | refine bi_xor ?_ | refine bi_shr (by omega) (by decide) ?_ | refine bi_shl (by omega) (by decide) ?_ | refine bi_quo64 (by omega) ?_ | refine bi_rem64 (by omega) ?_ | refine bi_mul64 (by omega) ?_ | refine bi_neg ?_ | refine bi_un_xor32 ?_ | refine bi_add ?_ | refine bi_sub ?_ | refine bi_mul ?_ | refine bi_quo (by decide) ?_ | refine bi_rem (by decide) ?_)
      exact ⟨false, rfl, (fun h => by cases h), rfl⟩
    (repeat with_reducible first | refine nck ?_ | refine cdT ?_ | refine cdF ?_ | refine gdY ?_ | refine gdFT ?_ | refine gdTF ?_ | refine gdU ?_ | refine gaY ?_ | refine gaFT ?_ | refine gaTF ?_ | refine pickT ?_ | refine pickF ?_ | refine bi_lss_t (by omega) ?_ | refine bi_lss_f (by omega) ?_ | refine bi_add64 (by omega) ?_ | refine bi_sub64 (by omega) ?_ | refine bi_eql_t (by omega) ?_ | refine bi_eql_f (by omega) ?_ | refine bi_neq_t (by omega) ?_ | refine bi_neq_f (by omega) ?_ | refine bi_gtr_t (by omega) ?_ | refine bi_gtr_f (by omega) ?_ | refine bi_leq_t (by omega) ?_ | refine bi_leq_f (by omega) ?_ | refine bi_geq_t (by omega) ?_ | refine bi_geq_f (by omega) ?_ | refine bi_xt0 ?_ | refine bi_xt1 ?_ | refine bi_xt2 ?_ | refine bi_xt3 ?_ | refine bi_T ?_ | refine bi_F ?_ | refine bi_not ?_ | refine bi_and ?_ | refine bi_or ?_ | refine bi_xor ?_ | refine bi_shr (by omega) (by decide) ?_ | refine bi_shl (by omega) (by decide) ?_ | refine bi_quo64 (by omega) ?_ | refine bi_rem64 (by omega) ?_ | refine bi_mul64 (by omega) ?_ | refine bi_neg ?_ | refine bi_un_xor32 ?_ | refine bi_add ?_ | refine bi_sub ?_ | refine bi_mul ?_ | refine bi_quo (by decide) ?_ | refine bi_rem (by decide) ?_)
    refine bi_gtr_c (fun h2 => ?_) (fun h2 => ?_)
    · (repeat with_reducible first | refine nck ?_ | refine cdT ?_ | refine cdF ?_ | refine gdY ?_ | refine gdFT ?_ | refine gdTF ?_ | refine gdU ?_ | refine gaY ?_ | refine gaFT ?_ | refine gaTF ?_ | refine pickT ?_ | refine pickF ?_ | refine bi_lss_t (by omega) ?_ | refine bi_lss_f (by omega) ?_ | refine bi_add64 (by omega) ?_ | refine bi_sub64 (by omega) ?_ | refine bi_eql_t (by omega) ?_ | refine bi_eql_f (by omega) ?_ | refine bi_neq_t (by omega) ?_ | refine bi_neq_f (by omega) ?_ | refine bi_gtr_t (by omega) ?_ | refine bi_gtr_f (by omega) ?_ | refine bi_leq_t (by omega) ?_ | refine bi_leq_f (by omega) ?_ | refine bi_geq_t (by omega) ?_ | refine bi_geq_f (by omega) ?_ | refine bi_xt0 ?_ | refine bi_xt1 ?_ | refine bi_xt2 ?_ | refine bi_xt3 ?_ | refine bi_T ?_ | refine bi_F ?_ | refine bi_not ?_ | refine bi_and ?_ | refine bi_or ?_ | refine bi_xor ?_ | refine bi_shr (by omega) (by decide) ?_ | refine bi_shl (by omega) (by decide) ?_ | refine bi_quo64 (by omega) ?_ | refine bi_rem64 (by omega) ?_ | refine bi_mul64 (by omega) ?_ | refine bi_neg ?_ | refine bi_un_xor32 ?_ | refine bi_add ?_ | refine bi_sub ?_ | refine bi_mul ?_ | refine bi_quo (by decide) ?_ | refine bi_rem (by decide) ?_)
      exact ⟨false, rfl, (fun h => by cases h), rfl⟩
    (repeat with_reducible first | refine ixN und23 sz36 k hk' ?_ | refine fdA v2 (by decide) ?_ | refine ld one9 hc2 ?_ | refine nck ?_ | refine cdT ?_ | refine cdF ?_ | refine gdY ?_ | refine gdFT ?_ | refine gdTF ?_ | refine gdU ?_ | refine gaY ?_ | refine gaFT ?_ | refine gaTF ?_ | refine pickT ?_ | refine pickF ?_ | refine bi_lss_t (by omega) ?_ | refine bi_lss_f (by omega) ?_ | refine bi_add64 (by omega) ?_ | refine bi_sub64 (by omega) ?_ | refine bi_eql_t (by omega) ?_ | refine bi_eql_f (by omega) ?_ | refine bi_neq_t (by omega) ?_ | refine bi_neq_f (by omega) ?_ | refine bi_gtr_t (by omega) ?_ | refine bi_gtr_f (by omega) ?_ | refine bi_leq_t (by omega) ?_ | refine bi_leq_f (by omega) ?_ | refine bi_geq_t (by omega) ?_ | refine bi_geq_f (by omega) ?_ | refine bi_xt0 ?_ | refine bi_xt1 ?_ | refine bi_xt2 ?_ | refine bi_xt3 ?_ | refine bi_T ?_ | refine bi_F ?_ | refine bi_not ?_ | refine bi_and ?_ | refine bi_or ?_ | refine bi_xor ?_ | refine bi_shr (by omega) (by decide) ?_ | refine bi_shl (by omega) (by decide) ?_ | refine bi_quo64 (by omega) ?_ | refine bi_rem64 (by omega) ?_ | refine bi_mul64 (by omega) ?_ | refine bi_neg ?_ | refine bi_un_xor32 ?_ | refine bi_add ?_ | refine bi_sub ?_ | refine bi_mul ?_ | refine bi_quo (by decide) ?_ | refine bi_rem (by decide) ?_)
    refine lns und9 ?_
    (repeat with_reducible first | refine nck ?_ | refine cdT ?_ | refine cdF ?_ | refine gdY ?_ | refine gdFT ?_ | refine gdTF ?_ | refine gdU ?_ | refine gaY ?_ | refine gaFT ?_ | refine gaTF ?_ | refine pickT ?_ | refine pickF ?_ | refine bi_lss_t (by omega) ?_ | refine bi_lss_f (by omega) ?_ | refine bi_add64 (by omega) ?_ | refine bi_sub64 (by omega) ?_ | refine bi_eql_t (by omega) ?_ | refine bi_eql_f (by omega) ?_ | refine bi_neq_t (by omega) ?_ | refine bi_neq_f (by omega) ?_ | refine bi_gtr_t (by omega) ?_ | refine bi_gtr_f (by omega) ?_ | refine bi_leq_t (by omega) ?_ | refine bi_leq_f (by omega) ?_ | refine bi_geq_t (by omega) ?_ | refine bi_geq_f (by omega) ?_ | refine bi_xt0 ?_ | refine bi_xt1 ?_ | refine bi_xt2 ?_ | refine bi_xt3 ?_ | refine bi_T ?_ | refine bi_F ?_ | refine bi_not ?_ | refine bi_and ?_ | refine bi_or ?_ | refine bi_xor ?_ | refine bi_shr (by omega) (by decide) ?_ | refine bi_shl (by omega) (by decide) ?_ | refine bi_quo64 (by omega) ?_ | refine bi_rem64 (by omega) ?_ | refine bi_mul64 (by omega) ?_ | refine bi_neg ?_ | refine bi_un_xor32 ?_ | refine bi_add ?_ | refine bi_sub ?_ | refine bi_mul ?_ | refine bi_quo (by decide) ?_ | refine bi_rem (by decide) ?_)
    refine bi_gtr_c (fun h3 => ?_) (fun h3 => ?_)
    · (repeat with_reducible first | refine nck ?_ | refine cdT ?_ | refine cdF ?_ | refine gdY ?_ | refine gdFT ?_ | refine gdTF ?_ | refine gdU ?_ | refine gaY ?_ | refine gaFT ?_ | refine gaTF ?_ | refine pickT ?_ | refine pickF ?_ | refine bi_lss_t (by omega) ?_ | refine bi_lss_f (by omega) ?_ | refine bi_add64 (by omega) ?_ | refine bi_sub64 (by omega) ?_ | refine bi_eql_t (by omega) ?_ | refine bi_eql_f (by omega) ?_ | refine bi_neq_t (by omega) ?_ | refine bi_neq_f (by omega) ?_ | refine bi_gtr_t (by omega) ?_ | refine bi_gtr_f (by omega) ?_ | refine bi_leq_t (by omega) ?_ | refine bi_leq_f (by omega) ?_ | refine bi_geq_t (by omega) ?_ | refine bi_geq_f (by omega) ?_ | refine bi_xt0 ?_ | refine bi_xt1 ?_ | refine bi_xt2 ?_ | refine bi_xt3 ?_ | refine bi_T ?_ | refine bi_F ?_ | refine bi_not ?_ | refine bi_and ?_ | refine bi_or ?_ | refine bi_xor ?_ | refine bi_shr (by omega) (by decide) ?_ | refine bi_shl (by omega) (by decide) ?_ | refine bi_quo64 (by omega) ?_ | refine bi_rem64 (by omega) ?_ | refine bi_mul64 (by omega) ?_ | refine bi_neg ?_ | refine bi_un_xor32 ?_ | refine bi_add ?_ | refine bi_sub ?_ | refine bi_mul ?_ | refine bi_quo (by decide) ?_ | refine bi_rem (by decide) ?_)
      exact ⟨false, rfl, (fun h => by cases h), rfl⟩
    (repeat with_reducible first | refine nck ?_ | refine cdT ?_ | refine cdF ?_ | refine gdY ?_ | refine gdFT ?_ | refine gdTF ?_ | refine gdU ?_ | refine gaY ?_ | refine gaFT ?_ | refine gaTF ?_ | refine pickT ?_ | refine pickF ?_ | refine bi_lss_t (by omega) ?_ | refine bi_lss_f (by omega) ?_ | refine bi_add64 (by omega) ?_ | refine bi_sub64 (by omega) ?_ | refine bi_eql_t (by omega) ?_ | refine bi_eql_f (by omega) ?_ | refine bi_neq_t (by omega) ?_ | refine bi_neq_f (by omega) ?_ | refine bi_gtr_t (by omega) ?_ | refine bi_gtr_f (by omega) ?_ | refine bi_leq_t (by omega) ?_ | refine bi_leq_f (by omega) ?_ | refine bi_geq_t (by omega) ?_ | refine bi_geq_f (by omega) ?_ | refine bi_xt0 ?_ | refine bi_xt1 ?_ | refine bi_xt2 ?_ | refine bi_xt3 ?_ | refine bi_T ?_ | refine bi_F ?_ | refine bi_not ?_ | refine bi_and ?_ | refine bi_or ?_ | refine bi_xor ?_ | refine bi_shr (by omega) (by decide) ?_ | refine bi_shl (by omega) (by decide) ?_ | refine bi_quo64 (by omega) ?_ | refine bi_rem64 (by omega) ?_ | refine bi_mul64 (by omega) ?_ | refine bi_neg ?_ | refine bi_un_xor32 ?_ | refine bi_add ?_ | refine bi_sub ?_ | refine bi_mul ?_ | refine bi_quo (by decide) ?_ | refine bi_rem (by decide) ?_)
    refine hJ _ _ _ ⟨k + 1, t + vs[k].2.2.1.size, by omega, by omega, by simp, by simp, ?_, by omega, rfl⟩ (by simp [intOf]; omega)
    rw [List.take_succ_eq_append_getElem hk', List.map_append, List.sum_append, ← ht]
    simp
  · (repeat with_reducible first | refine nck ?_ | refine cdT ?_ | refine cdF ?_ | refine gdY ?_ | refine gdFT ?_ | refine gdTF ?_ | refine gdU ?_ | refine gaY ?_ | refine gaFT ?_ | refine gaTF ?_ | refine pickT ?_ | refine pickF ?_ | refine bi_lss_t (by omega) ?_ | refine bi_lss_f (by omega) ?_ | refine bi_add64 (by omega) ?_ | refine bi_sub64 (by omega) ?_ | refine bi_eql_t (by omega) ?_ | refine bi_eql_f (by omega) ?_ | refine bi_neq_t (by omega) ?_ | refine bi_neq_f (by omega) ?_ | refine bi_gtr_t (by omega) ?_ | refine bi_gtr_f (by omega) ?_ | refine bi_leq_t (by omega) ?_ | refine bi_leq_f (by omega) ?_ | refine bi_geq_t (by omega) ?_ | refine bi_geq_f (by omega) ?_ | refine bi_xt0 ?_ | refine bi_xt1 ?_ | refine bi_xt2 ?_ | refine bi_xt3 ?_ | refine bi_T ?_ | refine bi_F ?_ | refine bi_not ?_ | refine bi_and ?_ | refine bi_or ?_ | refine bi_xor ?_ | refine bi_shr (by omega) (by decide) ?_ | refine bi_shl (by omega) (by decide) ?_ | refine bi_quo64 (by omega) ?_ | refine bi_rem64 (by omega) ?_ | refine bi_mul64 (by omega) ?_ | refine bi_neg ?_ | refine bi_un_xor32 ?_ | refine bi_add ?_ | refine bi_sub ?_ | refine bi_mul ?_ | refine bi_quo (by decide) ?_ | refine bi_rem (by decide) ?_)
    have : k = vs.length := by omega
    subst this
    rw [List.take_length] at ht
    exact ⟨true, rfl, fun _ => ⟨hk3, by omega⟩, rfl⟩
/-- The same values. -/
theorem sameVals_spec (v v' : Value) (vs : List ValT) (w : World) (hv : Vals w [v] vs) (hv' : Vals w [v'] vs) : CallP Try.prog 29 #[v, v'] (fun r w' => r = .bool true ∧ Below w.heap.size w w') w := by
  obtain ⟨A, c, rfl, hc, hm⟩ := hv.slice
  obtain ⟨A', c', rfl, hc', hm'⟩ := hv'.slice
  refine ⟨S29.calls _ _ _ _ ?_⟩
  unfold S29
  refine ln und23 ?_
  refine ln und23 ?_
  refine bi_neq_c (fun h => absurd rfl h) (fun _ => ?_)
  (repeat with_reducible first | refine nck ?_ | refine cdT ?_ | refine cdF ?_ | refine gdY ?_ | refine gdFT ?_ | refine gdTF ?_ | refine gdU ?_ | refine gaY ?_ | refine gaFT ?_ | refine gaTF ?_ | refine pickT ?_ | refine pickF ?_ | refine bi_lss_t (by omega) ?_ | refine bi_lss_f (by omega) ?_ | refine bi_add64 (by omega) ?_ | refine bi_sub64 (by omega) ?_ | refine bi_eql_t (by omega) ?_ | refine bi_eql_f (by omega) ?_ | refine bi_neq_t (by omega) ?_ | refine bi_neq_f (by omega) ?_ | refine bi_gtr_t (by omega) ?_ | refine bi_gtr_f (by omega) ?_ | refine bi_leq_t (by omega) ?_ | refine bi_leq_f (by omega) ?_ | refine bi_geq_t (by omega) ?_ | refine bi_geq_f (by omega) ?_ | refine bi_xt0 ?_ | refine bi_xt1 ?_ | refine bi_xt2 ?_ | refine bi_xt3 ?_ | refine bi_T ?_ | refine bi_F ?_ | refine bi_not ?_ | refine bi_and ?_ | refine bi_or ?_ | refine bi_xor ?_ | refine bi_shr (by omega) (by decide) ?_ | refine bi_shl (by omega) (by decide) ?_ | refine bi_quo64 (by omega) ?_ | refine bi_rem64 (by omega) ?_ | refine bi_mul64 (by omega) ?_ | refine bi_neg ?_ | refine bi_un_xor32 ?_ | refine bi_add ?_ | refine bi_sub ?_ | refine bi_mul ?_ | refine bi_quo (by decide) ?_ | refine bi_rem (by decide) ?_)
  refine LoopP.inv1 (fun iv w' => ∃ k : Nat, k ≤ vs.length ∧ iv = .int .i64 k ∧ Below w.heap.size w w') (fun iv _ => vs.length - (intOf iv).toNat) ⟨0, by omega, rfl, Below.refl _ _⟩ ?_
  rintro _ w1 ⟨k, hk, rfl, hb1⟩ J hJ
  dsimp only [List.headD_cons, List.tail_cons]
  refine ln und23 ?_
  refine bi_lss_c (fun h => ?_) (fun h => ?_)
  · have hk' : k < vs.length := by omega
    obtain ⟨a, us, rfl, hus, hcell, hrd⟩ := rRow.at (keeps_Vals _ _ _ _ hb1 hv) k hk'
    obtain ⟨rfl, hok⟩ := val_cells hrd
    obtain ⟨a', us', rfl, hus', hcell', hrd'⟩ := rRow.at (keeps_Vals _ _ _ _ hb1 hv') k hk'
    obtain ⟨rfl, _⟩ := val_cells hrd'
    have hdr : Below w1.heap.size w1 w1.drew := (Below.refl _ _).drew
    (repeat with_reducible first | refine nck ?_ | refine cdT ?_ | refine cdF ?_ | refine gdY ?_ | refine gdFT ?_ | refine gdTF ?_ | refine gdU ?_ | refine gaY ?_ | refine gaFT ?_ | refine gaTF ?_ | refine pickT ?_ | refine pickF ?_ | refine bi_lss_t (by omega) ?_ | refine bi_lss_f (by omega) ?_ | refine bi_add64 (by omega) ?_ | refine bi_sub64 (by omega) ?_ | refine bi_eql_t (by omega) ?_ | refine bi_eql_f (by omega) ?_ | refine bi_neq_t (by omega) ?_ | refine bi_neq_f (by omega) ?_ | refine bi_gtr_t (by omega) ?_ | refine bi_gtr_f (by omega) ?_ | refine bi_leq_t (by omega) ?_ | refine bi_leq_f (by omega) ?_ | refine bi_geq_t (by omega) ?_ | refine bi_geq_f (by omega) ?_ | refine bi_xt0 ?_ | refine bi_xt1 ?_ | refine bi_xt2 ?_ | refine bi_xt3 ?_ | refine bi_T ?_ | refine bi_F ?_ | refine bi_not ?_ | refine bi_and ?_ | refine bi_or ?_ | refine bi_xor ?_ | refine bi_shr (by omega) (by decide) ?_ | refine bi_shl (by omega) (by decide) ?_ | refine bi_quo64 (by omega) ?_ | refine bi_rem64 (by omega) ?_ | refine bi_mul64 (by omega) ?_ | refine bi_neg ?_ | refine bi_un_xor32 ?_ | refine bi_add ?_ | refine bi_sub ?_ | refine bi_mul ?_ | refine bi_quo (by decide) ?_ | refine bi_rem (by decide) ?_)
    refine draw (Below w1.heap.size w1) hdr ?_
    refine yixA und23 sz36 k hk' ?_
    refine yldR agg36 (keepC hcell) (by rw [sz36]; rfl) ?_
    refine yixA und23 sz36 k hk' ?_
    refine yldR agg36 (keepC hcell') (by rw [sz36]; rfl) ?_
    refine yofPR (pr_neq36 vs[k] vs[k]) ?_
    rw [show (!sameV vs[k] vs[k]) = false from by rw [sameV_self]; rfl]
    (repeat with_reducible first | refine nck ?_ | refine cdT ?_ | refine cdF ?_ | refine gdY ?_ | refine gdFT ?_ | refine gdTF ?_ | refine gdU ?_ | refine gaY ?_ | refine gaFT ?_ | refine gaTF ?_ | refine pickT ?_ | refine pickF ?_ | refine bi_lss_t (by omega) ?_ | refine bi_lss_f (by omega) ?_ | refine bi_add64 (by omega) ?_ | refine bi_sub64 (by omega) ?_ | refine bi_eql_t (by omega) ?_ | refine bi_eql_f (by omega) ?_ | refine bi_neq_t (by omega) ?_ | refine bi_neq_f (by omega) ?_ | refine bi_gtr_t (by omega) ?_ | refine bi_gtr_f (by omega) ?_ | refine bi_leq_t (by omega) ?_ | refine bi_leq_f (by omega) ?_ | refine bi_geq_t (by omega) ?_ | refine bi_geq_f (by omega) ?_ | refine bi_xt0 ?_ | refine bi_xt1 ?_ | refine bi_xt2 ?_ | refine bi_xt3 ?_ | refine bi_T ?_ | refine bi_F ?_ | refine bi_not ?_ | refine bi_and ?_ | refine bi_or ?_ | refine bi_xor ?_ | refine bi_shr (by omega) (by decide) ?_ | refine bi_shl (by omega) (by decide) ?_ | refine bi_quo64 (by omega) ?_ | refine bi_rem64 (by omega) ?_ | refine bi_mul64 (by omega) ?_ | refine bi_neg ?_ | refine bi_un_xor32 ?_ | refine bi_add ?_ | refine bi_sub ?_ | refine bi_mul ?_ | refine bi_quo (by decide) ?_ | refine bi_rem (by decide) ?_)
    exact hJ _ _ ⟨k + 1, by omega, by simp, below_then hb1 hdr⟩ (by simp [intOf]; omega)
  · (repeat with_reducible first | refine nck ?_ | refine cdT ?_ | refine cdF ?_ | refine gdY ?_ | refine gdFT ?_ | refine gdTF ?_ | refine gdU ?_ | refine gaY ?_ | refine gaFT ?_ | refine gaTF ?_ | refine pickT ?_ | refine pickF ?_ | refine bi_lss_t (by omega) ?_ | refine bi_lss_f (by omega) ?_ | refine bi_add64 (by omega) ?_ | refine bi_sub64 (by omega) ?_ | refine bi_eql_t (by omega) ?_ | refine bi_eql_f (by omega) ?_ | refine bi_neq_t (by omega) ?_ | refine bi_neq_f (by omega) ?_ | refine bi_gtr_t (by omega) ?_ | refine bi_gtr_f (by omega) ?_ | refine bi_leq_t (by omega) ?_ | refine bi_leq_f (by omega) ?_ | refine bi_geq_t (by omega) ?_ | refine bi_geq_f (by omega) ?_ | refine bi_xt0 ?_ | refine bi_xt1 ?_ | refine bi_xt2 ?_ | refine bi_xt3 ?_ | refine bi_T ?_ | refine bi_F ?_ | refine bi_not ?_ | refine bi_and ?_ | refine bi_or ?_ | refine bi_xor ?_ | refine bi_shr (by omega) (by decide) ?_ | refine bi_shl (by omega) (by decide) ?_ | refine bi_quo64 (by omega) ?_ | refine bi_rem64 (by omega) ?_ | refine bi_mul64 (by omega) ?_ | refine bi_neg ?_ | refine bi_un_xor32 ?_ | refine bi_add ?_ | refine bi_sub ?_ | refine bi_mul ?_ | refine bi_quo (by decide) ?_ | refine bi_rem (by decide) ?_)
    exact ⟨rfl, hb1⟩
theorem noRows_spec (v v' : Value) (w : World) (hv : RowsR w [v] []) (hv' : RowsR w [v'] []) : CallP Try.prog 30 #[v, v'] (fun r w' => r = .bool true ∧ w = w') w := by
  obtain ⟨A, c, rfl, hc, hm⟩ := hv.slice
  obtain ⟨A', c', rfl, hc', hm'⟩ := hv'.slice
  refine ⟨S30.calls _ _ _ _ ?_⟩
  unfold S30
  refine ln und25 ?_
  refine ln und25 ?_
  refine bi_neq_c (fun h => absurd rfl h) (fun _ => ?_)
  (repeat with_reducible first | refine nck ?_ | refine cdT ?_ | refine cdF ?_ | refine gdY ?_ | refine gdFT ?_ | refine gdTF ?_ | refine gdU ?_ | refine gaY ?_ | refine gaFT ?_ | refine gaTF ?_ | refine pickT ?_ | refine pickF ?_ | refine bi_lss_t (by omega) ?_ | refine bi_lss_f (by omega) ?_ | refine bi_add64 (by omega) ?_ | refine bi_sub64 (by omega) ?_ | refine bi_eql_t (by omega) ?_ | refine bi_eql_f (by omega) ?_ | refine bi_neq_t (by omega) ?_ | refine bi_neq_f (by omega) ?_ | refine bi_gtr_t (by omega) ?_ | refine bi_gtr_f (by omega) ?_ | refine bi_leq_t (by omega) ?_ | refine bi_leq_f (by omega) ?_ | refine bi_geq_t (by omega) ?_ | refine bi_geq_f (by omega) ?_ | refine bi_xt0 ?_ | refine bi_xt1 ?_ | refine bi_xt2 ?_ | refine bi_xt3 ?_ | refine bi_T ?_ | refine bi_F ?_ | refine bi_not ?_ | refine bi_and ?_ | refine bi_or ?_ | refine bi_xor ?_ | refine bi_shr (by omega) (by decide) ?_ | refine bi_shl (by omega) (by decide) ?_ | refine bi_quo64 (by omega) ?_ | refine bi_rem64 (by omega) ?_ | refine bi_mul64 (by omega) ?_ | refine bi_neg ?_ | refine bi_un_xor32 ?_ | refine bi_add ?_ | refine bi_sub ?_ | refine bi_mul ?_ | refine bi_quo (by decide) ?_ | refine bi_rem (by decide) ?_)
  refine LoopP.inv1 (fun iv w' => iv = .int .i64 0 ∧ w = w') (fun iv _ => 0) ⟨rfl, rfl⟩ ?_
  rintro _ _ ⟨rfl, rfl⟩ J hJ
  dsimp only [List.headD_cons, List.tail_cons]
  refine ln und25 ?_
  refine bi_lss_c (fun h => absurd h (by simp)) (fun _ => ?_)
  (repeat with_reducible first | refine nck ?_ | refine cdT ?_ | refine cdF ?_ | refine gdY ?_ | refine gdFT ?_ | refine gdTF ?_ | refine gdU ?_ | refine gaY ?_ | refine gaFT ?_ | refine gaTF ?_ | refine pickT ?_ | refine pickF ?_ | refine bi_lss_t (by omega) ?_ | refine bi_lss_f (by omega) ?_ | refine bi_add64 (by omega) ?_ | refine bi_sub64 (by omega) ?_ | refine bi_eql_t (by omega) ?_ | refine bi_eql_f (by omega) ?_ | refine bi_neq_t (by omega) ?_ | refine bi_neq_f (by omega) ?_ | refine bi_gtr_t (by omega) ?_ | refine bi_gtr_f (by omega) ?_ | refine bi_leq_t (by omega) ?_ | refine bi_leq_f (by omega) ?_ | refine bi_geq_t (by omega) ?_ | refine bi_geq_f (by omega) ?_ | refine bi_xt0 ?_ | refine bi_xt1 ?_ | refine bi_xt2 ?_ | refine bi_xt3 ?_ | refine bi_T ?_ | refine bi_F ?_ | refine bi_not ?_ | refine bi_and ?_ | refine bi_or ?_ | refine bi_xor ?_ | refine bi_shr (by omega) (by decide) ?_ | refine bi_shl (by omega) (by decide) ?_ | refine bi_quo64 (by omega) ?_ | refine bi_rem64 (by omega) ?_ | refine bi_mul64 (by omega) ?_ | refine bi_neg ?_ | refine bi_un_xor32 ?_ | refine bi_add ?_ | refine bi_sub ?_ | refine bi_mul ?_ | refine bi_quo (by decide) ?_ | refine bi_rem (by decide) ?_)
  exact ⟨rfl, rfl⟩
theorem RowsR.nil (w : World) (n : Nat) (h : n ≤ 9223372036854775807) : RowsR w [.slice none 0 n] [] := ⟨none, n, rfl, Nat.zero_le _, by simp only [maxLen]; omega, fun i x hx => by simp at hx⟩
theorem beq_T {P : Program} {K : Value → World → Prop} {w : World} {t : TypeId} {x y : Operand} {b : Bool} (ht : P.underlying t = some .bool) (k : K (.bool true) w) : LiftP P (binS .eql t x y (.bool b) (.bool b)) K w :=
  bi_beql ht (by rw [decide_eq_true rfl]; exact k)
theorem ieq_T {P : Program} {K : Value → World → Prop} {w : World} {t : TypeId} {x y : Operand} {kd : IntKind} {a : Int} (k : K (.bool true) w) : LiftP P (binS .eql t x y (.int kd a) (.int kd a)) K w :=
  bi_eql (by rw [decide_eq_true rfl]; exact k)
/-- The same replies, without rows. -/
theorem sameRep_spec (R : Rep) (p q p' q' : Value) (vs : List ValT) (w : World) (hp : Vals w [p] vs) (hp' : Vals w [p'] vs) (hq : RowsR w [q] []) (hq' : RowsR w [q'] []) :
    CallP Try.prog 13 #[.agg (R.cells p q), .agg (R.cells p' q')] (fun r w' => r = .bool true ∧ Below w.heap.size w w') w := by
  refine ⟨S13.calls _ _ _ _ ?_⟩
  unfold S13
  refine bx ?_
  have hL : Blk (w.alloc (.cells (Value.agg (R.cells p q)).cells 27)) w.heap.size 27 (R.cells p q) := Blk.new w 27 _
  have ha := (Below.refl w.heap.size w).alloc (Nat.le_refl _) (.cells (Value.agg (R.cells p q)).cells 27)
  generalize w.alloc (.cells (Value.agg (R.cells p q)).cells 27) = w1 at *
  refine bx ?_
  have hM : Blk (w1.alloc (.cells (Value.agg (R.cells p' q')).cells 27)) w1.heap.size 27 (R.cells p' q') := Blk.new w1 27 _
  have ha2 := (Below.refl w1.heap.size w1).alloc (Nat.le_refl _) (.cells (Value.agg (R.cells p' q')).cells 27)
  have hL2 := hL.below' ha2
  generalize hg2 : w1.heap.size = g2 at *
  generalize w1.alloc (.cells (Value.agg (R.cells p' q')).cells 27) = w2 at *
  have hb2 : Below w.heap.size w w2 := ha.trans (ha2.mono (by have := ha.size; omega))
  have c0 : w2.cell? ⟨w.heap.size, 0, none⟩ = some (.int .i64 R.code) := hL2.cell 0
  have c1 : w2.cell? ⟨w.heap.size, 1, none⟩ = some (.bool R.there) := hL2.cell 1
  have c2 : w2.cell? ⟨w.heap.size, 2, none⟩ = some p := hL2.cell 2
  have c4 : w2.cell? ⟨w.heap.size, 4, none⟩ = some (.int .i64 R.id) := hL2.cell 4
  have d0 : w2.cell? ⟨g2, 0, none⟩ = some (.int .i64 R.code) := hM.cell 0
  have d1 : w2.cell? ⟨g2, 1, none⟩ = some (.bool R.there) := hM.cell 1
  have d2 : w2.cell? ⟨g2, 2, none⟩ = some p' := hM.cell 2
  have d4 : w2.cell? ⟨g2, 4, none⟩ = some (.int .i64 R.id) := hM.cell 4
  refine fd r0 (by decide) ?_
  refine ld one22 c0 ?_
  refine fd r0 (by decide) ?_
  refine ld one22 d0 ?_
  refine ieq_T ?_
  (repeat with_reducible first | refine fd r1 (by decide) ?_ | refine ld one4 c1 ?_ | refine ld one4 d1 ?_ | refine nck ?_ | refine cdT ?_ | refine cdF ?_ | refine gdY ?_ | refine gdFT ?_ | refine gdTF ?_ | refine gdU ?_ | refine gaY ?_ | refine gaFT ?_ | refine gaTF ?_ | refine pickT ?_ | refine pickF ?_ | refine bi_lss_t (by omega) ?_ | refine bi_lss_f (by omega) ?_ | refine bi_add64 (by omega) ?_ | refine bi_sub64 (by omega) ?_ | refine bi_eql_t (by omega) ?_ | refine bi_eql_f (by omega) ?_ | refine bi_neq_t (by omega) ?_ | refine bi_neq_f (by omega) ?_ | refine bi_gtr_t (by omega) ?_ | refine bi_gtr_f (by omega) ?_ | refine bi_leq_t (by omega) ?_ | refine bi_leq_f (by omega) ?_ | refine bi_geq_t (by omega) ?_ | refine bi_geq_f (by omega) ?_ | refine bi_xt0 ?_ | refine bi_xt1 ?_ | refine bi_xt2 ?_ | refine bi_xt3 ?_ | refine bi_T ?_ | refine bi_F ?_ | refine bi_not ?_ | refine bi_and ?_ | refine bi_or ?_ | refine bi_xor ?_ | refine bi_shr (by omega) (by decide) ?_ | refine bi_shl (by omega) (by decide) ?_ | refine bi_quo64 (by omega) ?_ | refine bi_rem64 (by omega) ?_ | refine bi_mul64 (by omega) ?_ | refine bi_neg ?_ | refine bi_un_xor32 ?_ | refine bi_add ?_ | refine bi_sub ?_ | refine bi_mul ?_ | refine bi_quo (by decide) ?_ | refine bi_rem (by decide) ?_)
  refine beq_T und4 ?_
  (repeat with_reducible first | refine fd r4 (by decide) ?_ | refine ld one3 c4 ?_ | refine ld one3 d4 ?_ | refine fd r2 (by decide) ?_ | refine ld one24 c2 ?_ | refine ld one24 d2 ?_ | refine nck ?_ | refine cdT ?_ | refine cdF ?_ | refine gdY ?_ | refine gdFT ?_ | refine gdTF ?_ | refine gdU ?_ | refine gaY ?_ | refine gaFT ?_ | refine gaTF ?_ | refine pickT ?_ | refine pickF ?_ | refine bi_lss_t (by omega) ?_ | refine bi_lss_f (by omega) ?_ | refine bi_add64 (by omega) ?_ | refine bi_sub64 (by omega) ?_ | refine bi_eql_t (by omega) ?_ | refine bi_eql_f (by omega) ?_ | refine bi_neq_t (by omega) ?_ | refine bi_neq_f (by omega) ?_ | refine bi_gtr_t (by omega) ?_ | refine bi_gtr_f (by omega) ?_ | refine bi_leq_t (by omega) ?_ | refine bi_leq_f (by omega) ?_ | refine bi_geq_t (by omega) ?_ | refine bi_geq_f (by omega) ?_ | refine bi_xt0 ?_ | refine bi_xt1 ?_ | refine bi_xt2 ?_ | refine bi_xt3 ?_ | refine bi_T ?_ | refine bi_F ?_ | refine bi_not ?_ | refine bi_and ?_ | refine bi_or ?_ | refine bi_xor ?_ | refine bi_shr (by omega) (by decide) ?_ | refine bi_shl (by omega) (by decide) ?_ | refine bi_quo64 (by omega) ?_ | refine bi_rem64 (by omega) ?_ | refine bi_mul64 (by omega) ?_ | refine bi_neg ?_ | refine bi_un_xor32 ?_ | refine bi_add ?_ | refine bi_sub ?_ | refine bi_mul ?_ | refine bi_quo (by decide) ?_ | refine bi_rem (by decide) ?_)
  refine (sameVals_spec _ _ vs w2 (keeps_Vals _ _ _ _ hb2 hp) (keeps_Vals _ _ _ _ hb2 hp')).mono ?_
  rintro _ w3 ⟨rfl, hb3⟩
  have hb3' := below_then hb2 hb3
  have c3 : w3.cell? ⟨w.heap.size, 3, none⟩ = some q := (hL2.below' hb3).cell 3
  have d3 : w3.cell? ⟨g2, 3, none⟩ = some q' := (hM.below' hb3).cell 3
  (repeat with_reducible first | refine fd r3 (by decide) ?_ | refine ld one25 c3 ?_ | refine ld one25 d3 ?_ | refine nck ?_ | refine cdT ?_ | refine cdF ?_ | refine gdY ?_ | refine gdFT ?_ | refine gdTF ?_ | refine gdU ?_ | refine gaY ?_ | refine gaFT ?_ | refine gaTF ?_ | refine pickT ?_ | refine pickF ?_ | refine bi_lss_t (by omega) ?_ | refine bi_lss_f (by omega) ?_ | refine bi_add64 (by omega) ?_ | refine bi_sub64 (by omega) ?_ | refine bi_eql_t (by omega) ?_ | refine bi_eql_f (by omega) ?_ | refine bi_neq_t (by omega) ?_ | refine bi_neq_f (by omega) ?_ | refine bi_gtr_t (by omega) ?_ | refine bi_gtr_f (by omega) ?_ | refine bi_leq_t (by omega) ?_ | refine bi_leq_f (by omega) ?_ | refine bi_geq_t (by omega) ?_ | refine bi_geq_f (by omega) ?_ | refine bi_xt0 ?_ | refine bi_xt1 ?_ | refine bi_xt2 ?_ | refine bi_xt3 ?_ | refine bi_T ?_ | refine bi_F ?_ | refine bi_not ?_ | refine bi_and ?_ | refine bi_or ?_ | refine bi_xor ?_ | refine bi_shr (by omega) (by decide) ?_ | refine bi_shl (by omega) (by decide) ?_ | refine bi_quo64 (by omega) ?_ | refine bi_rem64 (by omega) ?_ | refine bi_mul64 (by omega) ?_ | refine bi_neg ?_ | refine bi_un_xor32 ?_ | refine bi_add ?_ | refine bi_sub ?_ | refine bi_mul ?_ | refine bi_quo (by decide) ?_ | refine bi_rem (by decide) ?_)
  refine (noRows_spec _ _ w3 (keeps_RowsR _ _ _ _ hb3' hq) (keeps_RowsR _ _ _ _ hb3' hq')).mono ?_
  rintro _ _ ⟨rfl, rfl⟩
  (repeat with_reducible first | refine nck ?_ | refine cdT ?_ | refine cdF ?_ | refine gdY ?_ | refine gdFT ?_ | refine gdTF ?_ | refine gdU ?_ | refine gaY ?_ | refine gaFT ?_ | refine gaTF ?_ | refine pickT ?_ | refine pickF ?_ | refine bi_lss_t (by omega) ?_ | refine bi_lss_f (by omega) ?_ | refine bi_add64 (by omega) ?_ | refine bi_sub64 (by omega) ?_ | refine bi_eql_t (by omega) ?_ | refine bi_eql_f (by omega) ?_ | refine bi_neq_t (by omega) ?_ | refine bi_neq_f (by omega) ?_ | refine bi_gtr_t (by omega) ?_ | refine bi_gtr_f (by omega) ?_ | refine bi_leq_t (by omega) ?_ | refine bi_leq_f (by omega) ?_ | refine bi_geq_t (by omega) ?_ | refine bi_geq_f (by omega) ?_ | refine bi_xt0 ?_ | refine bi_xt1 ?_ | refine bi_xt2 ?_ | refine bi_xt3 ?_ | refine bi_T ?_ | refine bi_F ?_ | refine bi_not ?_ | refine bi_and ?_ | refine bi_or ?_ | refine bi_xor ?_ | refine bi_shr (by omega) (by decide) ?_ | refine bi_shl (by omega) (by decide) ?_ | refine bi_quo64 (by omega) ?_ | refine bi_rem64 (by omega) ?_ | refine bi_mul64 (by omega) ?_ | refine bi_neg ?_ | refine bi_un_xor32 ?_ | refine bi_add ?_ | refine bi_sub ?_ | refine bi_mul ?_ | refine bi_quo (by decide) ?_ | refine bi_rem (by decide) ?_)
  exact ⟨rfl, hb3'⟩
end Go.Proofs.Ytmnaggdhkggjhaa.E
/- awake. -/
namespace Go.Proofs.Ytmnaggdhkggjhaa.E
open Go Go.RowKit
set_option linter.unusedSimpArgs false
set_option linter.unusedVariables false

theorem Vals.nil (w : World) : Vals w [.slice none 0 0] [] := ⟨none, 0, rfl, Nat.zero_le _, Nat.zero_le _, fun i x hx => by simp at hx⟩
theorem und30' : Try.prog.underlying 30 = some (.pointer 60) := und30
theorem Dh0 {hu : Nat} (h : 0 < hu) {c : Nat → Nat} {k : Nat} (hc : c k = 0) : ¬ Dh hu c k := fun e => by rw [Dh, hc] at e; omega
/-- Nothing of before has turned. -/
theorem Turns.toBelow {hu : Nat} (h : 0 < hu) {c : Nat → Nat} {w w' : World} (hT : Turns (Dh hu c) w w') (hc : ∀ k, k < w.heap.size → c k = 0) : Below w.heap.size w w' := hT.below (Nat.le_refl _) fun k hk => Dh0 h (hc k hk)
def awR : Nat → Rep
  | 0 => ⟨0, true, 0⟩
  | _ => zeroRep
def awakeV : Nat → (Int → VC)
  | 0 => V0
  | k + 1 => (keepQ (awakeV k) 1 (5 + k) (awR k) [] 0).2
theorem aw0 : (keepQ V0 1 5 (awR 0) [] 0).1 = 0 := by decide +kernel
theorem awa : lookQ (awakeV 1) 1 5 = (0, some (awR 0, [])) := rfl
theorem awb : lookQ (awakeV 1) 1 4 = (7, none) := rfl
theorem awc : lookQ (awakeV 5) 1 4 = (12, none) := rfl
theorem awd : (awakeV 5 1).1 = 5 := rfl
theorem awake_spec (w : World) : CallP Try.prog 8 #[] (fun r w' => r = .bool true ∧ Below w.heap.size w w') w := by
  refine ⟨S8.calls _ _ ?_⟩
  unfold S8
  refine (New_V 1 (by decide) (fun _ => 0) w).mono ?_
  rintro _ w1 ⟨g, c1, rfl, hc1, h1, hb1⟩
  have hT1 : Turns (Dh 1 fun _ => 0) w w1 := Turns.of_below hb1
  refine ofPR (pr_pnil und30) ?_
  simp only [Option.isNone_some]
  (repeat with_reducible first | refine nck ?_ | refine cdT ?_ | refine cdF ?_ | refine gdY ?_ | refine gdFT ?_ | refine gdTF ?_ | refine gdU ?_ | refine gaY ?_ | refine gaFT ?_ | refine gaTF ?_ | refine pickT ?_ | refine pickF ?_ | refine bi_lss_t (by omega) ?_ | refine bi_lss_f (by omega) ?_ | refine bi_add64 (by omega) ?_ | refine bi_sub64 (by omega) ?_ | refine bi_eql_t (by omega) ?_ | refine bi_eql_f (by omega) ?_ | refine bi_neq_t (by omega) ?_ | refine bi_neq_f (by omega) ?_ | refine bi_gtr_t (by omega) ?_ | refine bi_gtr_f (by omega) ?_ | refine bi_leq_t (by omega) ?_ | refine bi_leq_f (by omega) ?_ | refine bi_geq_t (by omega) ?_ | refine bi_geq_f (by omega) ?_ | refine bi_xt0 ?_ | refine bi_xt1 ?_ | refine bi_xt2 ?_ | refine bi_xt3 ?_ | refine bi_T ?_ | refine bi_F ?_ | refine bi_not ?_ | refine bi_and ?_ | refine bi_or ?_ | refine bi_xor ?_ | refine bi_shr (by omega) (by decide) ?_ | refine bi_shl (by omega) (by decide) ?_ | refine bi_quo64 (by omega) ?_ | refine bi_rem64 (by omega) ?_ | refine bi_mul64 (by omega) ?_ | refine bi_neg ?_ | refine bi_un_xor32 ?_ | refine bi_add ?_ | refine bi_sub ?_ | refine bi_mul ?_ | refine bi_quo (by decide) ?_ | refine bi_rem (by decide) ?_)
  refine bd (cells := (awR 0).cells (.slice none 0 0) (.slice none 0 0)) (by kernel_rfl) ?_
  (repeat with_reducible first | refine nck ?_ | refine cdT ?_ | refine cdF ?_ | refine gdY ?_ | refine gdFT ?_ | refine gdTF ?_ | refine gdU ?_ | refine gaY ?_ | refine gaFT ?_ | refine gaTF ?_ | refine pickT ?_ | refine pickF ?_ | refine bi_lss_t (by omega) ?_ | refine bi_lss_f (by omega) ?_ | refine bi_add64 (by omega) ?_ | refine bi_sub64 (by omega) ?_ | refine bi_eql_t (by omega) ?_ | refine bi_eql_f (by omega) ?_ | refine bi_neq_t (by omega) ?_ | refine bi_neq_f (by omega) ?_ | refine bi_gtr_t (by omega) ?_ | refine bi_gtr_f (by omega) ?_ | refine bi_leq_t (by omega) ?_ | refine bi_leq_f (by omega) ?_ | refine bi_geq_t (by omega) ?_ | refine bi_geq_f (by omega) ?_ | refine bi_xt0 ?_ | refine bi_xt1 ?_ | refine bi_xt2 ?_ | refine bi_xt3 ?_ | refine bi_T ?_ | refine bi_F ?_ | refine bi_not ?_ | refine bi_and ?_ | refine bi_or ?_ | refine bi_xor ?_ | refine bi_shr (by omega) (by decide) ?_ | refine bi_shl (by omega) (by decide) ?_ | refine bi_quo64 (by omega) ?_ | refine bi_rem64 (by omega) ?_ | refine bi_mul64 (by omega) ?_ | refine bi_neg ?_ | refine bi_un_xor32 ?_ | refine bi_add ?_ | refine bi_sub ?_ | refine bi_mul ?_ | refine bi_quo (by decide) ?_ | refine bi_rem (by decide) ?_)
  refine (Keep_V 1 5 (awR 0) (.slice none 0 0) (.slice none 0 0) [] [] h1 (Vals.nil _) (.inl rfl) (RowsR.nil _ 0 (by decide)) (by simp) (by decide)).mono ?_
  rintro _ w2 ⟨rfl, c2, hc2, h2, hT2⟩
  have hT2' := hT1.stepH hc1 hT2
  rw [List.length_nil] at h2 ⊢
  rw [aw0]
  (repeat with_reducible first | refine nck ?_ | refine cdT ?_ | refine cdF ?_ | refine gdY ?_ | refine gdFT ?_ | refine gdTF ?_ | refine gdU ?_ | refine gaY ?_ | refine gaFT ?_ | refine gaTF ?_ | refine pickT ?_ | refine pickF ?_ | refine bi_lss_t (by omega) ?_ | refine bi_lss_f (by omega) ?_ | refine bi_add64 (by omega) ?_ | refine bi_sub64 (by omega) ?_ | refine bi_eql_t (by omega) ?_ | refine bi_eql_f (by omega) ?_ | refine bi_neq_t (by omega) ?_ | refine bi_neq_f (by omega) ?_ | refine bi_gtr_t (by omega) ?_ | refine bi_gtr_f (by omega) ?_ | refine bi_leq_t (by omega) ?_ | refine bi_leq_f (by omega) ?_ | refine bi_geq_t (by omega) ?_ | refine bi_geq_f (by omega) ?_ | refine bi_xt0 ?_ | refine bi_xt1 ?_ | refine bi_xt2 ?_ | refine bi_xt3 ?_ | refine bi_T ?_ | refine bi_F ?_ | refine bi_not ?_ | refine bi_and ?_ | refine bi_or ?_ | refine bi_xor ?_ | refine bi_shr (by omega) (by decide) ?_ | refine bi_shl (by omega) (by decide) ?_ | refine bi_quo64 (by omega) ?_ | refine bi_rem64 (by omega) ?_ | refine bi_mul64 (by omega) ?_ | refine bi_neg ?_ | refine bi_un_xor32 ?_ | refine bi_add ?_ | refine bi_sub ?_ | refine bi_mul ?_ | refine bi_quo (by decide) ?_ | refine bi_rem (by decide) ?_)
  have h2 : TabV 1 c2 w2 g (awakeV 1) 1 := h2
  refine (Look_V 1 5 h2).mono ?_
  rintro _ w3 ⟨p3, rfl, ho3, hf3, hb3⟩
  have h3 := h2.below hb3
  rw [awa]
  have h1p : p3.oneCell' = true := by obtain ⟨A, e⟩ := ho3.slice; rw [e]; rfl
  (repeat with_reducible first | refine nck ?_ | refine cdT ?_ | refine cdF ?_ | refine gdY ?_ | refine gdFT ?_ | refine gdTF ?_ | refine gdU ?_ | refine gaY ?_ | refine gaFT ?_ | refine gaTF ?_ | refine pickT ?_ | refine pickF ?_ | refine bi_lss_t (by omega) ?_ | refine bi_lss_f (by omega) ?_ | refine bi_add64 (by omega) ?_ | refine bi_sub64 (by omega) ?_ | refine bi_eql_t (by omega) ?_ | refine bi_eql_f (by omega) ?_ | refine bi_neq_t (by omega) ?_ | refine bi_neq_f (by omega) ?_ | refine bi_gtr_t (by omega) ?_ | refine bi_gtr_f (by omega) ?_ | refine bi_leq_t (by omega) ?_ | refine bi_leq_f (by omega) ?_ | refine bi_geq_t (by omega) ?_ | refine bi_geq_f (by omega) ?_ | refine bi_xt0 ?_ | refine bi_xt1 ?_ | refine bi_xt2 ?_ | refine bi_xt3 ?_ | refine bi_T ?_ | refine bi_F ?_ | refine bi_not ?_ | refine bi_and ?_ | refine bi_or ?_ | refine bi_xor ?_ | refine bi_shr (by omega) (by decide) ?_ | refine bi_shl (by omega) (by decide) ?_ | refine bi_quo64 (by omega) ?_ | refine bi_rem64 (by omega) ?_ | refine bi_mul64 (by omega) ?_ | refine bi_neg ?_ | refine bi_un_xor32 ?_ | refine bi_add ?_ | refine bi_sub ?_ | refine bi_mul ?_ | refine bi_quo (by decide) ?_ | refine bi_rem (by decide) ?_)
  refine newRep h1p rfl ?_
  intro w4 hB4 hb4
  have h4 := h3.below hb4
  refine (Look_V 1 4 h4).mono ?_
  rintro _ w5 ⟨p5, rfl, ho5, hf5, hb5⟩
  rw [awb]
  have h1p5 : p5.oneCell' = true := by obtain ⟨A, e⟩ := ho5.slice; rw [e]; rfl
  (repeat with_reducible first | refine nck ?_ | refine cdT ?_ | refine cdF ?_ | refine gdY ?_ | refine gdFT ?_ | refine gdTF ?_ | refine gdU ?_ | refine gaY ?_ | refine gaFT ?_ | refine gaTF ?_ | refine pickT ?_ | refine pickF ?_ | refine bi_lss_t (by omega) ?_ | refine bi_lss_f (by omega) ?_ | refine bi_add64 (by omega) ?_ | refine bi_sub64 (by omega) ?_ | refine bi_eql_t (by omega) ?_ | refine bi_eql_f (by omega) ?_ | refine bi_neq_t (by omega) ?_ | refine bi_neq_f (by omega) ?_ | refine bi_gtr_t (by omega) ?_ | refine bi_gtr_f (by omega) ?_ | refine bi_leq_t (by omega) ?_ | refine bi_leq_f (by omega) ?_ | refine bi_geq_t (by omega) ?_ | refine bi_geq_f (by omega) ?_ | refine bi_xt0 ?_ | refine bi_xt1 ?_ | refine bi_xt2 ?_ | refine bi_xt3 ?_ | refine bi_T ?_ | refine bi_F ?_ | refine bi_not ?_ | refine bi_and ?_ | refine bi_or ?_ | refine bi_xor ?_ | refine bi_shr (by omega) (by decide) ?_ | refine bi_shl (by omega) (by decide) ?_ | refine bi_quo64 (by omega) ?_ | refine bi_rem64 (by omega) ?_ | refine bi_mul64 (by omega) ?_ | refine bi_neg ?_ | refine bi_un_xor32 ?_ | refine bi_add ?_ | refine bi_sub ?_ | refine bi_mul ?_ | refine bi_quo (by decide) ?_ | refine bi_rem (by decide) ?_)
  refine newRep h1p5 rfl ?_
  intro w6 hB6 hb6
  have hb26 : Below w2.heap.size w2 w6 := below_then (below_then (below_then hb3 hb4) hb5) hb6
  have hB46 := (hB4.below' hb5).below' hb6
  have hcol := col_lt c2 w2.heap.size 0
  have h6 : TabV 1 (col c2 w2.heap.size 0) w6 g (awakeV 1) 1 := (h2.re hcol).below hb26
  have hs1 := hb1.size
  have hs2 := hT2.size
  have hs3 := hb3.size
  have hag : ∀ k, k < w.heap.size → col c2 w2.heap.size 0 k = 0 := fun k hk => by rw [hcol k (by omega), hc2 k (by omega), hc1 k hk]
  generalize hgb : w3.heap.size = gb at *
  refine LoopP.inv1 (fun iv w' => ∃ (k : Nat) (c : Nat → Nat), k ≤ 4 ∧ iv = .int .i64 (6 + k) ∧ TabV 1 c w' g (awakeV (1 + k)) (1 + k) ∧ (∀ j, j < w.heap.size → c j = 0) ∧ c gb = 0 ∧ Blk w' gb 27 ((awR 0).cells p3 (.slice none 0 0)) ∧ Turns (Dh 1 fun _ => 0) w w') (fun iv _ => 10 - (intOf iv).toNat)
    ⟨0, col c2 w2.heap.size 0, by omega, rfl, h6, hag, col_ge _ _ _ hs3, hB46, hT2'.then_below hb26⟩ ?_
  rintro _ w7 ⟨k, c, hk, rfl, h7, hc7, hcg, hB7, hT7⟩ J hJ
  dsimp only [List.headD_cons, List.tail_cons]
  refine bi_lss_c (fun h => ?_) (fun h => ?_)
  · have hk3 : k < 4 := by omega
    (repeat with_reducible first | refine nck ?_ | refine cdT ?_ | refine cdF ?_ | refine gdY ?_ | refine gdFT ?_ | refine gdTF ?_ | refine gdU ?_ | refine gaY ?_ | refine gaFT ?_ | refine gaTF ?_ | refine pickT ?_ | refine pickF ?_ | refine bi_lss_t (by omega) ?_ | refine bi_lss_f (by omega) ?_ | refine bi_add64 (by omega) ?_ | refine bi_sub64 (by omega) ?_ | refine bi_eql_t (by omega) ?_ | refine bi_eql_f (by omega) ?_ | refine bi_neq_t (by omega) ?_ | refine bi_neq_f (by omega) ?_ | refine bi_gtr_t (by omega) ?_ | refine bi_gtr_f (by omega) ?_ | refine bi_leq_t (by omega) ?_ | refine bi_leq_f (by omega) ?_ | refine bi_geq_t (by omega) ?_ | refine bi_geq_f (by omega) ?_ | refine bi_xt0 ?_ | refine bi_xt1 ?_ | refine bi_xt2 ?_ | refine bi_xt3 ?_ | refine bi_T ?_ | refine bi_F ?_ | refine bi_not ?_ | refine bi_and ?_ | refine bi_or ?_ | refine bi_xor ?_ | refine bi_shr (by omega) (by decide) ?_ | refine bi_shl (by omega) (by decide) ?_ | refine bi_quo64 (by omega) ?_ | refine bi_rem64 (by omega) ?_ | refine bi_mul64 (by omega) ?_ | refine bi_neg ?_ | refine bi_un_xor32 ?_ | refine bi_add ?_ | refine bi_sub ?_ | refine bi_mul ?_ | refine bi_quo (by decide) ?_ | refine bi_rem (by decide) ?_)
    refine bd (cells := zeroRep.cells (.slice none 0 0) (.slice none 0 0)) (by kernel_rfl) ?_
    refine (Keep_V 1 (6 + k) zeroRep (.slice none 0 0) (.slice none 0 0) [] [] h7 (Vals.nil _) (.inl rfl) (RowsR.nil _ 0 (by decide)) (by simp) (by omega)).mono ?_
    rintro _ w8 ⟨rfl, c8, hc8, h8, hT8⟩
    (repeat with_reducible first | refine nck ?_ | refine cdT ?_ | refine cdF ?_ | refine gdY ?_ | refine gdFT ?_ | refine gdTF ?_ | refine gdU ?_ | refine gaY ?_ | refine gaFT ?_ | refine gaTF ?_ | refine pickT ?_ | refine pickF ?_ | refine bi_lss_t (by omega) ?_ | refine bi_lss_f (by omega) ?_ | refine bi_add64 (by omega) ?_ | refine bi_sub64 (by omega) ?_ | refine bi_eql_t (by omega) ?_ | refine bi_eql_f (by omega) ?_ | refine bi_neq_t (by omega) ?_ | refine bi_neq_f (by omega) ?_ | refine bi_gtr_t (by omega) ?_ | refine bi_gtr_f (by omega) ?_ | refine bi_leq_t (by omega) ?_ | refine bi_leq_f (by omega) ?_ | refine bi_geq_t (by omega) ?_ | refine bi_geq_f (by omega) ?_ | refine bi_xt0 ?_ | refine bi_xt1 ?_ | refine bi_xt2 ?_ | refine bi_xt3 ?_ | refine bi_T ?_ | refine bi_F ?_ | refine bi_not ?_ | refine bi_and ?_ | refine bi_or ?_ | refine bi_xor ?_ | refine bi_shr (by omega) (by decide) ?_ | refine bi_shl (by omega) (by decide) ?_ | refine bi_quo64 (by omega) ?_ | refine bi_rem64 (by omega) ?_ | refine bi_mul64 (by omega) ?_ | refine bi_neg ?_ | refine bi_un_xor32 ?_ | refine bi_add ?_ | refine bi_sub ?_ | refine bi_mul ?_ | refine bi_quo (by decide) ?_ | refine bi_rem (by decide) ?_)
    have hs7 := hT7.size
    have hgl := hB7.lt
    refine hJ _ _ ⟨k + 1, c8, by omega, by simp; omega, ?_, fun j hj => by rw [hc8 j (by omega), hc7 j hj], by rw [hc8 gb hgl, hcg], hB7.turns hT8 (Dh0 (by decide) hcg), hT7.stepH (c1 := c) (fun j hj => hc7 j hj) hT8⟩ (by simp [intOf]; omega)
    have e : awakeV (1 + (k + 1)) = (keepQ (awakeV (1 + k)) 1 (6 + k) zeroRep [] 0).2 := by
      rw [show 1 + (k + 1) = (k + 1) + 1 from by omega, awakeV, show k + 1 = 1 + k from by omega]
      have : awR (1 + k) = zeroRep := by rw [show 1 + k = k + 1 from by omega]; rfl
      rw [this, show (5 : Int) + ((1 + k : Nat) : Int) = 6 + k from by omega]
    rw [e]
    exact h8.mono (by omega)
  · have : k = 4 := by omega
    subst this
    (repeat with_reducible first | refine nck ?_ | refine cdT ?_ | refine cdF ?_ | refine gdY ?_ | refine gdFT ?_ | refine gdTF ?_ | refine gdU ?_ | refine gaY ?_ | refine gaFT ?_ | refine gaTF ?_ | refine pickT ?_ | refine pickF ?_ | refine bi_lss_t (by omega) ?_ | refine bi_lss_f (by omega) ?_ | refine bi_add64 (by omega) ?_ | refine bi_sub64 (by omega) ?_ | refine bi_eql_t (by omega) ?_ | refine bi_eql_f (by omega) ?_ | refine bi_neq_t (by omega) ?_ | refine bi_neq_f (by omega) ?_ | refine bi_gtr_t (by omega) ?_ | refine bi_gtr_f (by omega) ?_ | refine bi_leq_t (by omega) ?_ | refine bi_leq_f (by omega) ?_ | refine bi_geq_t (by omega) ?_ | refine bi_geq_f (by omega) ?_ | refine bi_xt0 ?_ | refine bi_xt1 ?_ | refine bi_xt2 ?_ | refine bi_xt3 ?_ | refine bi_T ?_ | refine bi_F ?_ | refine bi_not ?_ | refine bi_and ?_ | refine bi_or ?_ | refine bi_xor ?_ | refine bi_shr (by omega) (by decide) ?_ | refine bi_shl (by omega) (by decide) ?_ | refine bi_quo64 (by omega) ?_ | refine bi_rem64 (by omega) ?_ | refine bi_mul64 (by omega) ?_ | refine bi_neg ?_ | refine bi_un_xor32 ?_ | refine bi_add ?_ | refine bi_sub ?_ | refine bi_mul ?_ | refine bi_quo (by decide) ?_ | refine bi_rem (by decide) ?_)
    refine (Look_V 1 4 h7).mono ?_
    rintro _ w8 ⟨p8, rfl, ho8, hf8, hb8⟩
    rw [awc]
    have h1p8 : p8.oneCell' = true := by obtain ⟨A, e⟩ := ho8.slice; rw [e]; rfl
    (repeat with_reducible first | refine nck ?_ | refine cdT ?_ | refine cdF ?_ | refine gdY ?_ | refine gdFT ?_ | refine gdTF ?_ | refine gdU ?_ | refine gaY ?_ | refine gaFT ?_ | refine gaTF ?_ | refine pickT ?_ | refine pickF ?_ | refine bi_lss_t (by omega) ?_ | refine bi_lss_f (by omega) ?_ | refine bi_add64 (by omega) ?_ | refine bi_sub64 (by omega) ?_ | refine bi_eql_t (by omega) ?_ | refine bi_eql_f (by omega) ?_ | refine bi_neq_t (by omega) ?_ | refine bi_neq_f (by omega) ?_ | refine bi_gtr_t (by omega) ?_ | refine bi_gtr_f (by omega) ?_ | refine bi_leq_t (by omega) ?_ | refine bi_leq_f (by omega) ?_ | refine bi_geq_t (by omega) ?_ | refine bi_geq_f (by omega) ?_ | refine bi_xt0 ?_ | refine bi_xt1 ?_ | refine bi_xt2 ?_ | refine bi_xt3 ?_ | refine bi_T ?_ | refine bi_F ?_ | refine bi_not ?_ | refine bi_and ?_ | refine bi_or ?_ | refine bi_xor ?_ | refine bi_shr (by omega) (by decide) ?_ | refine bi_shl (by omega) (by decide) ?_ | refine bi_quo64 (by omega) ?_ | refine bi_rem64 (by omega) ?_ | refine bi_mul64 (by omega) ?_ | refine bi_neg ?_ | refine bi_un_xor32 ?_ | refine bi_add ?_ | refine bi_sub ?_ | refine bi_mul ?_ | refine bi_quo (by decide) ?_ | refine bi_rem (by decide) ?_)
    refine newRep h1p8 rfl ?_
    intro w9 hB9 hb9
    have hb79 := below_then hb8 hb9
    have hB79 := hB7.below' hb79
    have h9 := h7.below hb79
    have c1 : w9.cell? ⟨gb, 1, none⟩ = some (.bool true) := hB79.cell 1
    (repeat with_reducible first | refine fd r1 (by decide) ?_ | refine ld one4 c1 ?_ | refine nck ?_ | refine cdT ?_ | refine cdF ?_ | refine gdY ?_ | refine gdFT ?_ | refine gdTF ?_ | refine gdU ?_ | refine gaY ?_ | refine gaFT ?_ | refine gaTF ?_ | refine pickT ?_ | refine pickF ?_ | refine bi_lss_t (by omega) ?_ | refine bi_lss_f (by omega) ?_ | refine bi_add64 (by omega) ?_ | refine bi_sub64 (by omega) ?_ | refine bi_eql_t (by omega) ?_ | refine bi_eql_f (by omega) ?_ | refine bi_neq_t (by omega) ?_ | refine bi_neq_f (by omega) ?_ | refine bi_gtr_t (by omega) ?_ | refine bi_gtr_f (by omega) ?_ | refine bi_leq_t (by omega) ?_ | refine bi_leq_f (by omega) ?_ | refine bi_geq_t (by omega) ?_ | refine bi_geq_f (by omega) ?_ | refine bi_xt0 ?_ | refine bi_xt1 ?_ | refine bi_xt2 ?_ | refine bi_xt3 ?_ | refine bi_T ?_ | refine bi_F ?_ | refine bi_not ?_ | refine bi_and ?_ | refine bi_or ?_ | refine bi_xor ?_ | refine bi_shr (by omega) (by decide) ?_ | refine bi_shl (by omega) (by decide) ?_ | refine bi_quo64 (by omega) ?_ | refine bi_rem64 (by omega) ?_ | refine bi_mul64 (by omega) ?_ | refine bi_neg ?_ | refine bi_un_xor32 ?_ | refine bi_add ?_ | refine bi_sub ?_ | refine bi_mul ?_ | refine bi_quo (by decide) ?_ | refine bi_rem (by decide) ?_)
    refine (Floor_V 1 h9).mono ?_
    rintro _ _ ⟨rfl, rfl⟩
    rw [show (awakeV (1 + 4) 1).1 = 5 from awd]
    (repeat with_reducible first | refine nck ?_ | refine cdT ?_ | refine cdF ?_ | refine gdY ?_ | refine gdFT ?_ | refine gdTF ?_ | refine gdU ?_ | refine gaY ?_ | refine gaFT ?_ | refine gaTF ?_ | refine pickT ?_ | refine pickF ?_ | refine bi_lss_t (by omega) ?_ | refine bi_lss_f (by omega) ?_ | refine bi_add64 (by omega) ?_ | refine bi_sub64 (by omega) ?_ | refine bi_eql_t (by omega) ?_ | refine bi_eql_f (by omega) ?_ | refine bi_neq_t (by omega) ?_ | refine bi_neq_f (by omega) ?_ | refine bi_gtr_t (by omega) ?_ | refine bi_gtr_f (by omega) ?_ | refine bi_leq_t (by omega) ?_ | refine bi_leq_f (by omega) ?_ | refine bi_geq_t (by omega) ?_ | refine bi_geq_f (by omega) ?_ | refine bi_xt0 ?_ | refine bi_xt1 ?_ | refine bi_xt2 ?_ | refine bi_xt3 ?_ | refine bi_T ?_ | refine bi_F ?_ | refine bi_not ?_ | refine bi_and ?_ | refine bi_or ?_ | refine bi_xor ?_ | refine bi_shr (by omega) (by decide) ?_ | refine bi_shl (by omega) (by decide) ?_ | refine bi_quo64 (by omega) ?_ | refine bi_rem64 (by omega) ?_ | refine bi_mul64 (by omega) ?_ | refine bi_neg ?_ | refine bi_un_xor32 ?_ | refine bi_add ?_ | refine bi_sub ?_ | refine bi_mul ?_ | refine bi_quo (by decide) ?_ | refine bi_rem (by decide) ?_)
    exact ⟨rfl, (hT7.then_below hb79).toBelow (by decide) fun _ _ => rfl⟩
end Go.Proofs.Ytmnaggdhkggjhaa.E
/- OnceKeeps: what is handed in isn't kept; what is answered is new memory. -/
namespace Go.Proofs.Ytmnaggdhkggjhaa.E
open Go Go.RowKit
set_option linter.unusedSimpArgs false
set_option linter.unusedVariables false

abbrev ReplyT := Int × Bool × List ValT × List RowT × Int × Unit
abbrev rReply : Rdr ReplyT := rCons 1 (rI .i64) (rCons 1 rBool (rCons 1 Vals (rCons 1 RowsR (rCons 1 (rI .i64) rNil))))
theorem opens_Val : Opens Try.prog 36 rVal := opens_struct Try.underlying36 (by kernel_rfl) (opensF_cons rfl (by kernel_rfl) (by decide) (opens_int und3) (opensF_cons rfl (by kernel_rfl) (by decide) (opens_int und3) (opensF_cons rfl (by kernel_rfl) (by decide) (opens_string und9) opensF_nil)))
theorem opens_Vals : Opens Try.prog 24 Vals := opens_row und24 (by kernel_rfl) opens_Val
theorem opens_Vals' : Opens Try.prog 23 Vals := opens_row und23 (by kernel_rfl) opens_Val
theorem opens_RowsR : Opens Try.prog 25 RowsR := opens_row und25 (by kernel_rfl) (opens_struct Try.underlying94 (by kernel_rfl) (opensF_cons rfl (by kernel_rfl) (by decide) (opens_string und9) (opensF_cons rfl (by kernel_rfl) (by decide) opens_Vals opensF_nil)))
theorem opens_Reply : Opens Try.prog 27 rReply := opens_struct Try.underlying27 (by kernel_rfl)
  (opensF_cons rfl (by kernel_rfl) (by decide) (opens_int und22) (opensF_cons rfl (by kernel_rfl) (by decide) (opens_bool und4) (opensF_cons rfl (by kernel_rfl) (by decide) opens_Vals (opensF_cons rfl (by kernel_rfl) (by decide) opens_RowsR (opensF_cons rfl (by kernel_rfl) (by decide) (opens_int und3) opensF_nil)))))
theorem reply_cells {w : World} {cs : List Value} {z : ReplyT} (h : rReply w cs z) : ∃ p q, cs = ((⟨z.1, z.2.1, z.2.2.2.2.1⟩ : Rep).cells p q).toList ∧ Vals w [p] z.2.2.1 ∧ RowsR w [q] z.2.2.2.1 := by
  obtain ⟨r, rfl, _, h⟩ := rCons_I h
  obtain ⟨r, rfl, h9⟩ := rCons_Bool h
  obtain ⟨p, r, rfl, hp, h⟩ := rCons_Row h9
  obtain ⟨q, r, rfl, hq, h⟩ := rCons_Row h
  obtain ⟨r, rfl, _, h⟩ := rCons_I h
  have : r = [] := h
  subst this
  exact ⟨p, q, rfl, hp, hq⟩
theorem one36 (n : Int) : (#[.int .i64 n, .int .i64 0, .string ⟨#[]⟩] : Array Value).all (·.oneCell') = true := by rw [← Array.all_toList]; rfl
/-- All values of a reply are written over. -/
theorem scribble {x y z : Nat} (b : Nat) (R : Rep) (v q : Value) (n : Nat) (cs : List Value) (w : World) (hn : n ≤ 1000) {K : World → Prop} (hb : Blk w b 27 (R.cells v q)) (ho : OwnR 3 36 w v n cs)
    (k : ∀ w' cs', Blk w' b 27 (R.cells v q) → OwnR 3 36 w' v n cs' → Turns (fun k => v.ownBlock = some k) w w' → K w') :
    LoopP (fun J vs w =>
      LiftP Try.prog (Instr.fieldAt 27 (.pointer (some ⟨b, 0, none⟩)) 2) (fun v56 w =>
      LiftP Try.prog (Instr.loadAt 24 v56) (fun v57 w =>
      NextP Try.prog (builtin Go.Builtin.len #[24] 3 #[false] #[v57]) (fun v58 w =>
      LiftP Try.prog (binS Go.BinOp.lss 3 (Go.Operand.tmp x) (Go.Operand.tmp y) (vs.headD undef) v58) (fun v59 w =>
      CondP v59 (fun w =>
        LiftP Try.prog (Instr.fieldAt 27 (.pointer (some ⟨b, 0, none⟩)) 2) (fun v62 w =>
        LiftP Try.prog (Instr.loadAt 24 v62) (fun v63 w =>
        LiftP Try.prog (Instr.build 36 #[(0, (Go.Value.int Go.IntKind.i64 9))]) (fun v65 w =>
        LiftP Try.prog (Instr.indexAt 24 v63 (vs.headD undef)) (fun v66 w =>
        LiftU Try.prog (Instr.storeAt 36 v66 v65) (fun v__3 w =>
        LiftP Try.prog (binS Go.BinOp.add 3 (Go.Operand.tmp z) (Go.Operand.const (Go.Value.int Go.IntKind.i64 1)) (vs.headD undef) (Go.Value.int Go.IntKind.i64 1)) (fun v61 w =>
        J [v61] w) w) w) w) w) w) w) K w) w) w) w) w) [(Go.Value.int Go.IntKind.i64 0)] w := by
  refine LoopP.inv1 (fun iv w' => ∃ (k : Nat) (cs' : List Value), k ≤ n ∧ iv = .int .i64 k ∧ Blk w' b 27 (R.cells v q) ∧ OwnR 3 36 w' v n cs' ∧ Turns (fun k => v.ownBlock = some k) w w') (fun iv _ => n - (intOf iv).toNat) ⟨0, cs, by omega, rfl, hb, ho, Turns.refl _ _⟩ ?_
  rintro _ w1 ⟨i, cs1, hi, rfl, hb1, ho1, hT1⟩ J hJ
  dsimp only [List.headD_cons, List.tail_cons]
  obtain ⟨A, c, rfl, _, _⟩ := ho1.slice
  have c2 : w1.cell? ⟨b, 2, none⟩ = some (.slice A n c) := hb1.cell 2
  (repeat with_reducible first | refine fd r2 (by decide) ?_ | refine ld one24 c2 ?_ | refine nck ?_ | refine cdT ?_ | refine cdF ?_ | refine gdY ?_ | refine gdFT ?_ | refine gdTF ?_ | refine gdU ?_ | refine gaY ?_ | refine gaFT ?_ | refine gaTF ?_ | refine pickT ?_ | refine pickF ?_ | refine bi_lss_t (by omega) ?_ | refine bi_lss_f (by omega) ?_ | refine bi_add64 (by omega) ?_ | refine bi_sub64 (by omega) ?_ | refine bi_eql_t (by omega) ?_ | refine bi_eql_f (by omega) ?_ | refine bi_neq_t (by omega) ?_ | refine bi_neq_f (by omega) ?_ | refine bi_gtr_t (by omega) ?_ | refine bi_gtr_f (by omega) ?_ | refine bi_leq_t (by omega) ?_ | refine bi_leq_f (by omega) ?_ | refine bi_geq_t (by omega) ?_ | refine bi_geq_f (by omega) ?_ | refine bi_xt0 ?_ | refine bi_xt1 ?_ | refine bi_xt2 ?_ | refine bi_xt3 ?_ | refine bi_T ?_ | refine bi_F ?_ | refine bi_not ?_ | refine bi_and ?_ | refine bi_or ?_ | refine bi_xor ?_ | refine bi_shr (by omega) (by decide) ?_ | refine bi_shl (by omega) (by decide) ?_ | refine bi_quo64 (by omega) ?_ | refine bi_rem64 (by omega) ?_ | refine bi_mul64 (by omega) ?_ | refine bi_neg ?_ | refine bi_un_xor32 ?_ | refine bi_add ?_ | refine bi_sub ?_ | refine bi_mul ?_ | refine bi_quo (by decide) ?_ | refine bi_rem (by decide) ?_)
  refine ln und24 ?_
  refine bi_lss_c (fun h => ?_) (fun h => ?_)
  · have hi' : i < n := by omega
    obtain ⟨g, u, rfl, _, _, _⟩ := ho1.at (i * 3) (by omega)
    (repeat with_reducible first | refine fd r2 (by decide) ?_ | refine ld one24 c2 ?_ | refine nck ?_ | refine cdT ?_ | refine cdF ?_ | refine gdY ?_ | refine gdFT ?_ | refine gdTF ?_ | refine gdU ?_ | refine gaY ?_ | refine gaFT ?_ | refine gaTF ?_ | refine pickT ?_ | refine pickF ?_ | refine bi_lss_t (by omega) ?_ | refine bi_lss_f (by omega) ?_ | refine bi_add64 (by omega) ?_ | refine bi_sub64 (by omega) ?_ | refine bi_eql_t (by omega) ?_ | refine bi_eql_f (by omega) ?_ | refine bi_neq_t (by omega) ?_ | refine bi_neq_f (by omega) ?_ | refine bi_gtr_t (by omega) ?_ | refine bi_gtr_f (by omega) ?_ | refine bi_leq_t (by omega) ?_ | refine bi_leq_f (by omega) ?_ | refine bi_geq_t (by omega) ?_ | refine bi_geq_f (by omega) ?_ | refine bi_xt0 ?_ | refine bi_xt1 ?_ | refine bi_xt2 ?_ | refine bi_xt3 ?_ | refine bi_T ?_ | refine bi_F ?_ | refine bi_not ?_ | refine bi_and ?_ | refine bi_or ?_ | refine bi_xor ?_ | refine bi_shr (by omega) (by decide) ?_ | refine bi_shl (by omega) (by decide) ?_ | refine bi_quo64 (by omega) ?_ | refine bi_rem64 (by omega) ?_ | refine bi_mul64 (by omega) ?_ | refine bi_neg ?_ | refine bi_un_xor32 ?_ | refine bi_add ?_ | refine bi_sub ?_ | refine bi_mul ?_ | refine bi_quo (by decide) ?_ | refine bi_rem (by decide) ?_)
    refine bd (cells := #[.int .i64 9, .int .i64 0, .string ⟨#[]⟩]) (by kernel_rfl) ?_
    refine ixG und24 sz36 i hi' ?_
    refine stE ho1 i hi' rfl sz36 (one36 9) ?_
    intro w2 ho2 hT2
    have hne : b ≠ g := by
      rcases ho1.2 with ⟨h, _⟩ | ⟨g', _, _, he, hbl, _⟩
      · cases h
      · cases he
        exact blk_ne hb1 hbl (by decide)
    (repeat with_reducible first | refine nck ?_ | refine cdT ?_ | refine cdF ?_ | refine gdY ?_ | refine gdFT ?_ | refine gdTF ?_ | refine gdU ?_ | refine gaY ?_ | refine gaFT ?_ | refine gaTF ?_ | refine pickT ?_ | refine pickF ?_ | refine bi_lss_t (by omega) ?_ | refine bi_lss_f (by omega) ?_ | refine bi_add64 (by omega) ?_ | refine bi_sub64 (by omega) ?_ | refine bi_eql_t (by omega) ?_ | refine bi_eql_f (by omega) ?_ | refine bi_neq_t (by omega) ?_ | refine bi_neq_f (by omega) ?_ | refine bi_gtr_t (by omega) ?_ | refine bi_gtr_f (by omega) ?_ | refine bi_leq_t (by omega) ?_ | refine bi_leq_f (by omega) ?_ | refine bi_geq_t (by omega) ?_ | refine bi_geq_f (by omega) ?_ | refine bi_xt0 ?_ | refine bi_xt1 ?_ | refine bi_xt2 ?_ | refine bi_xt3 ?_ | refine bi_T ?_ | refine bi_F ?_ | refine bi_not ?_ | refine bi_and ?_ | refine bi_or ?_ | refine bi_xor ?_ | refine bi_shr (by omega) (by decide) ?_ | refine bi_shl (by omega) (by decide) ?_ | refine bi_quo64 (by omega) ?_ | refine bi_rem64 (by omega) ?_ | refine bi_mul64 (by omega) ?_ | refine bi_neg ?_ | refine bi_un_xor32 ?_ | refine bi_add ?_ | refine bi_sub ?_ | refine bi_mul ?_ | refine bi_quo (by decide) ?_ | refine bi_rem (by decide) ?_)
    exact hJ _ _ ⟨i + 1, _, by omega, by simp, hb1.turns hT2 hne, ho2, hT1.trans (hT2.mono fun k _ e => .inl (by subst e; rfl))⟩ (by simp [intOf]; omega)
  · (repeat with_reducible first | refine nck ?_ | refine cdT ?_ | refine cdF ?_ | refine gdY ?_ | refine gdFT ?_ | refine gdTF ?_ | refine gdU ?_ | refine gaY ?_ | refine gaFT ?_ | refine gaTF ?_ | refine pickT ?_ | refine pickF ?_ | refine bi_lss_t (by omega) ?_ | refine bi_lss_f (by omega) ?_ | refine bi_add64 (by omega) ?_ | refine bi_sub64 (by omega) ?_ | refine bi_eql_t (by omega) ?_ | refine bi_eql_f (by omega) ?_ | refine bi_neq_t (by omega) ?_ | refine bi_neq_f (by omega) ?_ | refine bi_gtr_t (by omega) ?_ | refine bi_gtr_f (by omega) ?_ | refine bi_leq_t (by omega) ?_ | refine bi_leq_f (by omega) ?_ | refine bi_geq_t (by omega) ?_ | refine bi_geq_f (by omega) ?_ | refine bi_xt0 ?_ | refine bi_xt1 ?_ | refine bi_xt2 ?_ | refine bi_xt3 ?_ | refine bi_T ?_ | refine bi_F ?_ | refine bi_not ?_ | refine bi_and ?_ | refine bi_or ?_ | refine bi_xor ?_ | refine bi_shr (by omega) (by decide) ?_ | refine bi_shl (by omega) (by decide) ?_ | refine bi_quo64 (by omega) ?_ | refine bi_rem64 (by omega) ?_ | refine bi_mul64 (by omega) ?_ | refine bi_neg ?_ | refine bi_un_xor32 ?_ | refine bi_add ?_ | refine bi_sub ?_ | refine bi_mul ?_ | refine bi_quo (by decide) ?_ | refine bi_rem (by decide) ?_)
    exact k _ _ hb1 ho1 hT1
theorem keep0_fail {id n : Int} {R : Rep} {vs : List ValT} {rows : Nat} (h : (keepQ V0 id n R vs rows).1 ≠ 0) : (keepQ V0 id n R vs rows).2 = V0 := by
  unfold keepQ at h ⊢
  split
  · rfl
  · rename_i h1
    rw [if_neg h1] at h
    split
    · rfl
    · rename_i h2
      rw [if_neg h2] at h
      split
      · rfl
      · rename_i h3
        rw [if_neg h3] at h
        exact absurd rfl h
theorem look0 (id n : Int) : (lookQ V0 id n).1 = 1 ∨ (lookQ V0 id n).1 = 7 := by
  unfold lookQ
  split
  · exact .inl rfl
  · rename_i hbad
    right
    simp only [badP, Bool.not_eq_true, Bool.not_eq_false', Bool.and_eq_true, decide_eq_true_eq] at hbad
    unfold lookV V0
    rw [if_neg (by simp only; omega)]
    rfl
theorem keep0_ok {id n : Int} {R : Rep} {vs : List ValT} {rows : Nat} (h : (keepQ V0 id n R vs rows).1 = 0) : rows = 0 ∧ lookQ (keepQ V0 id n R vs rows).2 id n = (0, some (R, vs)) := by
  unfold keepQ at h ⊢
  split at h
  · cases h
  · rename_i h1
    rw [if_neg h1]
    split at h
    · cases h
    · rename_i h2
      rw [if_neg h2]
      split at h
      · cases h
      · rename_i h3
        rw [if_neg h3]
        have harg : argP id n R vs rows = false := by simpa using h1
        have hbad := argP_bad harg
        obtain ⟨_, hn, _, _⟩ := lookQ_new (lookQ_bad hbad) h2 h3
        refine ⟨?_, ?_⟩
        · unfold argP at harg
          simp only [Bool.or_eq_false_iff, decide_eq_false_iff_not] at harg
          omega
        · rw [lookQ, if_neg (by rw [hbad]; exact Bool.false_ne_true)]
          show lookV (setV V0 id (putV (0, []) n (R, vs)) id) n = _
          rw [setV_same]
          show lookV (0, [(n, (R, vs))]) n = _
          unfold lookV
          rw [if_neg (by simp only; omega)]
          simp [getK]
theorem OnceKeeps_spec (id n : Int) (R : Rep) (p q : Value) (vs : List ValT) (rows : List RowT) (w : World) (hp : Vals w [p] vs) (hq : RowsR w [q] rows) :
    CallP Try.prog 3 #[.int .i64 id, .int .i64 n, .agg (R.cells p q)] (fun r w' => r = .bool true ∧ Below w.heap.size w w') w := by
  obtain ⟨A, cA, rfl, _, hmA⟩ := hp.slice
  obtain ⟨A', cA', rfl, _, hmA'⟩ := hq.slice
  refine ⟨S3.calls _ _ _ _ _ ?_⟩
  unfold S3
  refine bx ?_
  have hB : Blk (w.alloc (.cells (Value.agg (R.cells (.slice A vs.length cA) (.slice A' rows.length cA'))).cells 27)) w.heap.size 27 (R.cells (.slice A vs.length cA) (.slice A' rows.length cA')) := Blk.new w 27 _
  have ha := (Below.refl w.heap.size w).alloc (Nat.le_refl _) (.cells (Value.agg (R.cells (.slice A vs.length cA) (.slice A' rows.length cA'))).cells 27)
  generalize w.alloc (.cells (Value.agg (R.cells (.slice A vs.length cA) (.slice A' rows.length cA'))).cells 27) = w1 at *
  refine (awake_spec w1).mono ?_
  rintro _ w2 ⟨rfl, hb2⟩
  have hb2' := below_then ha hb2
  have hB2 := hB.below' hb2
  have c2 : w2.cell? ⟨w.heap.size, 2, none⟩ = some (.slice A vs.length cA) := hB2.cell 2
  have c3 : w2.cell? ⟨w.heap.size, 3, none⟩ = some (.slice A' rows.length cA') := hB2.cell 3
  (repeat with_reducible first | refine fd r2 (by decide) ?_ | refine ld one24 c2 ?_ | refine nck ?_ | refine cdT ?_ | refine cdF ?_ | refine gdY ?_ | refine gdFT ?_ | refine gdTF ?_ | refine gdU ?_ | refine gaY ?_ | refine gaFT ?_ | refine gaTF ?_ | refine pickT ?_ | refine pickF ?_ | refine bi_lss_t (by omega) ?_ | refine bi_lss_f (by omega) ?_ | refine bi_add64 (by omega) ?_ | refine bi_sub64 (by omega) ?_ | refine bi_eql_t (by omega) ?_ | refine bi_eql_f (by omega) ?_ | refine bi_neq_t (by omega) ?_ | refine bi_neq_f (by omega) ?_ | refine bi_gtr_t (by omega) ?_ | refine bi_gtr_f (by omega) ?_ | refine bi_leq_t (by omega) ?_ | refine bi_leq_f (by omega) ?_ | refine bi_geq_t (by omega) ?_ | refine bi_geq_f (by omega) ?_ | refine bi_xt0 ?_ | refine bi_xt1 ?_ | refine bi_xt2 ?_ | refine bi_xt3 ?_ | refine bi_T ?_ | refine bi_F ?_ | refine bi_not ?_ | refine bi_and ?_ | refine bi_or ?_ | refine bi_xor ?_ | refine bi_shr (by omega) (by decide) ?_ | refine bi_shl (by omega) (by decide) ?_ | refine bi_quo64 (by omega) ?_ | refine bi_rem64 (by omega) ?_ | refine bi_mul64 (by omega) ?_ | refine bi_neg ?_ | refine bi_un_xor32 ?_ | refine bi_add ?_ | refine bi_sub ?_ | refine bi_mul ?_ | refine bi_quo (by decide) ?_ | refine bi_rem (by decide) ?_)
  have hp2 := keeps_Vals _ _ _ _ hb2' hp
  refine (light_spec _ vs w2 hp2).mono ?_
  rintro _ _ ⟨b, rfl, hlight, rfl⟩
  cases b with
  | false =>
    (repeat with_reducible first | refine nck ?_ | refine cdT ?_ | refine cdF ?_ | refine gdY ?_ | refine gdFT ?_ | refine gdTF ?_ | refine gdU ?_ | refine gaY ?_ | refine gaFT ?_ | refine gaTF ?_ | refine pickT ?_ | refine pickF ?_ | refine bi_lss_t (by omega) ?_ | refine bi_lss_f (by omega) ?_ | refine bi_add64 (by omega) ?_ | refine bi_sub64 (by omega) ?_ | refine bi_eql_t (by omega) ?_ | refine bi_eql_f (by omega) ?_ | refine bi_neq_t (by omega) ?_ | refine bi_neq_f (by omega) ?_ | refine bi_gtr_t (by omega) ?_ | refine bi_gtr_f (by omega) ?_ | refine bi_leq_t (by omega) ?_ | refine bi_leq_f (by omega) ?_ | refine bi_geq_t (by omega) ?_ | refine bi_geq_f (by omega) ?_ | refine bi_xt0 ?_ | refine bi_xt1 ?_ | refine bi_xt2 ?_ | refine bi_xt3 ?_ | refine bi_T ?_ | refine bi_F ?_ | refine bi_not ?_ | refine bi_and ?_ | refine bi_or ?_ | refine bi_xor ?_ | refine bi_shr (by omega) (by decide) ?_ | refine bi_shl (by omega) (by decide) ?_ | refine bi_quo64 (by omega) ?_ | refine bi_rem64 (by omega) ?_ | refine bi_mul64 (by omega) ?_ | refine bi_neg ?_ | refine bi_un_xor32 ?_ | refine bi_add ?_ | refine bi_sub ?_ | refine bi_mul ?_ | refine bi_quo (by decide) ?_ | refine bi_rem (by decide) ?_)
    exact ⟨rfl, hb2'⟩
  | true =>
  obtain ⟨hl1, hl2⟩ := hlight rfl
  (repeat with_reducible first | refine fd r3 (by decide) ?_ | refine ld one25 c3 ?_ | refine nck ?_ | refine cdT ?_ | refine cdF ?_ | refine gdY ?_ | refine gdFT ?_ | refine gdTF ?_ | refine gdU ?_ | refine gaY ?_ | refine gaFT ?_ | refine gaTF ?_ | refine pickT ?_ | refine pickF ?_ | refine bi_lss_t (by omega) ?_ | refine bi_lss_f (by omega) ?_ | refine bi_add64 (by omega) ?_ | refine bi_sub64 (by omega) ?_ | refine bi_eql_t (by omega) ?_ | refine bi_eql_f (by omega) ?_ | refine bi_neq_t (by omega) ?_ | refine bi_neq_f (by omega) ?_ | refine bi_gtr_t (by omega) ?_ | refine bi_gtr_f (by omega) ?_ | refine bi_leq_t (by omega) ?_ | refine bi_leq_f (by omega) ?_ | refine bi_geq_t (by omega) ?_ | refine bi_geq_f (by omega) ?_ | refine bi_xt0 ?_ | refine bi_xt1 ?_ | refine bi_xt2 ?_ | refine bi_xt3 ?_ | refine bi_T ?_ | refine bi_F ?_ | refine bi_not ?_ | refine bi_and ?_ | refine bi_or ?_ | refine bi_xor ?_ | refine bi_shr (by omega) (by decide) ?_ | refine bi_shl (by omega) (by decide) ?_ | refine bi_quo64 (by omega) ?_ | refine bi_rem64 (by omega) ?_ | refine bi_mul64 (by omega) ?_ | refine bi_neg ?_ | refine bi_un_xor32 ?_ | refine bi_add ?_ | refine bi_sub ?_ | refine bi_mul ?_ | refine bi_quo (by decide) ?_ | refine bi_rem (by decide) ?_)
  refine ln und25 ?_
  (repeat with_reducible first | refine nck ?_ | refine cdT ?_ | refine cdF ?_ | refine gdY ?_ | refine gdFT ?_ | refine gdTF ?_ | refine gdU ?_ | refine gaY ?_ | refine gaFT ?_ | refine gaTF ?_ | refine pickT ?_ | refine pickF ?_ | refine bi_lss_t (by omega) ?_ | refine bi_lss_f (by omega) ?_ | refine bi_add64 (by omega) ?_ | refine bi_sub64 (by omega) ?_ | refine bi_eql_t (by omega) ?_ | refine bi_eql_f (by omega) ?_ | refine bi_neq_t (by omega) ?_ | refine bi_neq_f (by omega) ?_ | refine bi_gtr_t (by omega) ?_ | refine bi_gtr_f (by omega) ?_ | refine bi_leq_t (by omega) ?_ | refine bi_leq_f (by omega) ?_ | refine bi_geq_t (by omega) ?_ | refine bi_geq_f (by omega) ?_ | refine bi_xt0 ?_ | refine bi_xt1 ?_ | refine bi_xt2 ?_ | refine bi_xt3 ?_ | refine bi_T ?_ | refine bi_F ?_ | refine bi_not ?_ | refine bi_and ?_ | refine bi_or ?_ | refine bi_xor ?_ | refine bi_shr (by omega) (by decide) ?_ | refine bi_shl (by omega) (by decide) ?_ | refine bi_quo64 (by omega) ?_ | refine bi_rem64 (by omega) ?_ | refine bi_mul64 (by omega) ?_ | refine bi_neg ?_ | refine bi_un_xor32 ?_ | refine bi_add ?_ | refine bi_sub ?_ | refine bi_mul ?_ | refine bi_quo (by decide) ?_ | refine bi_rem (by decide) ?_)
  refine bi_gtr_c (fun h10 => ?_) (fun h10 => ?_)
  · (repeat with_reducible first | refine nck ?_ | refine cdT ?_ | refine cdF ?_ | refine gdY ?_ | refine gdFT ?_ | refine gdTF ?_ | refine gdU ?_ | refine gaY ?_ | refine gaFT ?_ | refine gaTF ?_ | refine pickT ?_ | refine pickF ?_ | refine bi_lss_t (by omega) ?_ | refine bi_lss_f (by omega) ?_ | refine bi_add64 (by omega) ?_ | refine bi_sub64 (by omega) ?_ | refine bi_eql_t (by omega) ?_ | refine bi_eql_f (by omega) ?_ | refine bi_neq_t (by omega) ?_ | refine bi_neq_f (by omega) ?_ | refine bi_gtr_t (by omega) ?_ | refine bi_gtr_f (by omega) ?_ | refine bi_leq_t (by omega) ?_ | refine bi_leq_f (by omega) ?_ | refine bi_geq_t (by omega) ?_ | refine bi_geq_f (by omega) ?_ | refine bi_xt0 ?_ | refine bi_xt1 ?_ | refine bi_xt2 ?_ | refine bi_xt3 ?_ | refine bi_T ?_ | refine bi_F ?_ | refine bi_not ?_ | refine bi_and ?_ | refine bi_or ?_ | refine bi_xor ?_ | refine bi_shr (by omega) (by decide) ?_ | refine bi_shl (by omega) (by decide) ?_ | refine bi_quo64 (by omega) ?_ | refine bi_rem64 (by omega) ?_ | refine bi_mul64 (by omega) ?_ | refine bi_neg ?_ | refine bi_un_xor32 ?_ | refine bi_add ?_ | refine bi_sub ?_ | refine bi_mul ?_ | refine bi_quo (by decide) ?_ | refine bi_rem (by decide) ?_)
    exact ⟨rfl, hb2'⟩
  (repeat with_reducible first | refine nck ?_ | refine cdT ?_ | refine cdF ?_ | refine gdY ?_ | refine gdFT ?_ | refine gdTF ?_ | refine gdU ?_ | refine gaY ?_ | refine gaFT ?_ | refine gaTF ?_ | refine pickT ?_ | refine pickF ?_ | refine bi_lss_t (by omega) ?_ | refine bi_lss_f (by omega) ?_ | refine bi_add64 (by omega) ?_ | refine bi_sub64 (by omega) ?_ | refine bi_eql_t (by omega) ?_ | refine bi_eql_f (by omega) ?_ | refine bi_neq_t (by omega) ?_ | refine bi_neq_f (by omega) ?_ | refine bi_gtr_t (by omega) ?_ | refine bi_gtr_f (by omega) ?_ | refine bi_leq_t (by omega) ?_ | refine bi_leq_f (by omega) ?_ | refine bi_geq_t (by omega) ?_ | refine bi_geq_f (by omega) ?_ | refine bi_xt0 ?_ | refine bi_xt1 ?_ | refine bi_xt2 ?_ | refine bi_xt3 ?_ | refine bi_T ?_ | refine bi_F ?_ | refine bi_not ?_ | refine bi_and ?_ | refine bi_or ?_ | refine bi_xor ?_ | refine bi_shr (by omega) (by decide) ?_ | refine bi_shl (by omega) (by decide) ?_ | refine bi_quo64 (by omega) ?_ | refine bi_rem64 (by omega) ?_ | refine bi_mul64 (by omega) ?_ | refine bi_neg ?_ | refine bi_un_xor32 ?_ | refine bi_add ?_ | refine bi_sub ?_ | refine bi_mul ?_ | refine bi_quo (by decide) ?_ | refine bi_rem (by decide) ?_)
  refine ldA agg27 hB2 (by exact sz27) ?_
  refine newRep rfl rfl ?_
  intro w3 hO3 hb3
  have hb3' := below_then hb2' hb3
  have hB3 := hB2.below' hb3
  have hlt2 := hB2.lt
  have hlt3 := hO3.lt
  generalize hgo : w2.heap.size = go at *
  refine bs0 und24 sz36 ?_
  have hb4 := (Below.refl w3.heap.size w3).alloc (Nat.le_refl _) (.cells #[] 36)
  have hown4 : (w3.alloc (.cells #[] 36)).ownsRow 0 36 3 (.slice (some ⟨w3.heap.size, 0, none⟩) 0 0) 0 [] := ⟨by simp, .inr ⟨w3.heap.size, 0, #[], rfl, Nat.zero_le _, heap_alloc_new w3 _, Nat.le_refl _, Nat.zero_le _, by simp, by simp⟩⟩
  have hf4 : Fresh w3.heap.size (.slice (some ⟨w3.heap.size, 0, none⟩) 0 0) := Fresh.new (Nat.le_refl _) 0 0
  generalize w3.alloc (.cells #[] 36) = w4 at *
  have hb4' := below_then hb3' hb4
  have hB4 := hB3.below' hb4
  have hO4 := hO3.below' hb4
  have d2 : w4.cell? ⟨w.heap.size, 2, none⟩ = some (.slice A vs.length cA) := hB4.cell 2
  (repeat with_reducible first | refine fd r2 (by decide) ?_ | refine ld one24 d2 ?_ | refine nck ?_ | refine cdT ?_ | refine cdF ?_ | refine gdY ?_ | refine gdFT ?_ | refine gdTF ?_ | refine gdU ?_ | refine gaY ?_ | refine gaFT ?_ | refine gaTF ?_ | refine pickT ?_ | refine pickF ?_ | refine bi_lss_t (by omega) ?_ | refine bi_lss_f (by omega) ?_ | refine bi_add64 (by omega) ?_ | refine bi_sub64 (by omega) ?_ | refine bi_eql_t (by omega) ?_ | refine bi_eql_f (by omega) ?_ | refine bi_neq_t (by omega) ?_ | refine bi_neq_f (by omega) ?_ | refine bi_gtr_t (by omega) ?_ | refine bi_gtr_f (by omega) ?_ | refine bi_leq_t (by omega) ?_ | refine bi_leq_f (by omega) ?_ | refine bi_geq_t (by omega) ?_ | refine bi_geq_f (by omega) ?_ | refine bi_xt0 ?_ | refine bi_xt1 ?_ | refine bi_xt2 ?_ | refine bi_xt3 ?_ | refine bi_T ?_ | refine bi_F ?_ | refine bi_not ?_ | refine bi_and ?_ | refine bi_or ?_ | refine bi_xor ?_ | refine bi_shr (by omega) (by decide) ?_ | refine bi_shl (by omega) (by decide) ?_ | refine bi_quo64 (by omega) ?_ | refine bi_rem64 (by omega) ?_ | refine bi_mul64 (by omega) ?_ | refine bi_neg ?_ | refine bi_un_xor32 ?_ | refine bi_add ?_ | refine bi_sub ?_ | refine bi_mul ?_ | refine bi_quo (by decide) ?_ | refine bi_rem (by decide) ?_)
  have hp4 := keeps_Vals _ _ _ _ hb4' hp
  refine apR w3.heap.size und24 inf36 (by rfl) (by decide) hown4 hf4 hb4.size (fun _ => rfl) valF_one (fun w us x h => (val_cells h).1) hp4 (by omega) (by omega) ?_
  intro v5 w5 ho5 hf5 hb5 _
  rw [Nat.zero_add, List.nil_append] at ho5
  have ho5 : OwnR 3 36 w5 v5 vs.length (vs.flatMap valF) := OwnR.of_own ho5
  have hb35 : Below w3.heap.size w3 w5 := hb4.trans hb5
  have hb5' := below_then hb3' hb35
  have hB5 := hB3.below' hb35
  have hO5 := hO3.below' hb35
  have h1v : v5.oneCell' = true := by obtain ⟨A, c, e, _⟩ := ho5.slice; rw [e]; rfl
  (repeat with_reducible first | refine fd r2 (by decide) ?_ | refine nck ?_ | refine cdT ?_ | refine cdF ?_ | refine gdY ?_ | refine gdFT ?_ | refine gdTF ?_ | refine gdU ?_ | refine gaY ?_ | refine gaFT ?_ | refine gaTF ?_ | refine pickT ?_ | refine pickF ?_ | refine bi_lss_t (by omega) ?_ | refine bi_lss_f (by omega) ?_ | refine bi_add64 (by omega) ?_ | refine bi_sub64 (by omega) ?_ | refine bi_eql_t (by omega) ?_ | refine bi_eql_f (by omega) ?_ | refine bi_neq_t (by omega) ?_ | refine bi_neq_f (by omega) ?_ | refine bi_gtr_t (by omega) ?_ | refine bi_gtr_f (by omega) ?_ | refine bi_leq_t (by omega) ?_ | refine bi_leq_f (by omega) ?_ | refine bi_geq_t (by omega) ?_ | refine bi_geq_f (by omega) ?_ | refine bi_xt0 ?_ | refine bi_xt1 ?_ | refine bi_xt2 ?_ | refine bi_xt3 ?_ | refine bi_T ?_ | refine bi_F ?_ | refine bi_not ?_ | refine bi_and ?_ | refine bi_or ?_ | refine bi_xor ?_ | refine bi_shr (by omega) (by decide) ?_ | refine bi_shl (by omega) (by decide) ?_ | refine bi_quo64 (by omega) ?_ | refine bi_rem64 (by omega) ?_ | refine bi_mul64 (by omega) ?_ | refine bi_neg ?_ | refine bi_un_xor32 ?_ | refine bi_add ?_ | refine bi_sub ?_ | refine bi_mul ?_ | refine bi_quo (by decide) ?_ | refine bi_rem (by decide) ?_)
  refine st sz24 h1v (by rw [hO5.cell 2]; rfl) (hO5.frozen 2) ?_
  have hO6 := hO5.set_ 2 v5
  rw [setR2] at hO6
  have hT6 := Turns.setCell (F := fun k => k = go) (p := ⟨go, 2, none⟩) (Turns.refl _ w5) (.inl rfl) v5
  have hB6 := hB5.turns hT6 (by omega)
  have ho6 := ho5.turns hT6 (fun k hk e => by have := hf5 k hk; omega)
  have hb6 : Below w.heap.size w (w5.setCell ⟨go, 2, none⟩ v5) := hb5'.trans (hT6.below (by have := hb5'.size; omega) fun k hk e => by omega)
  generalize w5.setCell ⟨go, 2, none⟩ v5 = w6 at *
  refine (New_V 1 (by decide) (fun _ => 0) w6).mono ?_
  rintro _ w7 ⟨g, c7, rfl, hc7, h7, hb7⟩
  have hb7' := below_then hb6 hb7
  have hB7 := hB6.below' hb7
  have hO7 := hO6.below' hb7
  have ho7 := ho6.below hb7
  refine ldA agg27 hO7 (by exact sz27) ?_
  have hv7 : Vals w7 [v5] vs := ho7.rd (fun _ => rfl) fun x hx => rVal_of (vals_ok hp x hx)
  refine (Keep_V id n R v5 (.slice A' rows.length cA') vs rows h7 hv7 (.inr fun k hk => by rw [hc7 k (ho6.lt hk)]; decide) (keeps_RowsR _ _ _ _ hb7' hq) (by omega) (by decide)).mono ?_
  rintro _ w8 ⟨rfl, c8, hc8, h8, hT8⟩
  have hs6 := hb6.size
  have hs7 := hb7.size
  have hT68 : Turns (Dh 1 fun _ => 0) w6 w8 := (Turns.of_below hb7).stepH hc7 hT8
  have hb68 : Below w6.heap.size w6 w8 := hT68.toBelow (by decide) fun _ _ => rfl
  have hb8' := below_then hb6 hb68
  have hB8 := hB6.below' hb68
  have hO8 := hO6.below' hb68
  have ho8 := ho6.below hb68
  have hc8z : ∀ k, k < w6.heap.size → c8 k = 0 := fun k hk => by rw [hc8 k (by omega), hc7 k hk]
  refine bi_neq_c (fun hne => ?_) (fun heq => ?_)
  · (repeat with_reducible first | refine nck ?_ | refine cdT ?_ | refine cdF ?_ | refine gdY ?_ | refine gdFT ?_ | refine gdTF ?_ | refine gdU ?_ | refine gaY ?_ | refine gaFT ?_ | refine gaTF ?_ | refine pickT ?_ | refine pickF ?_ | refine bi_lss_t (by omega) ?_ | refine bi_lss_f (by omega) ?_ | refine bi_add64 (by omega) ?_ | refine bi_sub64 (by omega) ?_ | refine bi_eql_t (by omega) ?_ | refine bi_eql_f (by omega) ?_ | refine bi_neq_t (by omega) ?_ | refine bi_neq_f (by omega) ?_ | refine bi_gtr_t (by omega) ?_ | refine bi_gtr_f (by omega) ?_ | refine bi_leq_t (by omega) ?_ | refine bi_leq_f (by omega) ?_ | refine bi_geq_t (by omega) ?_ | refine bi_geq_f (by omega) ?_ | refine bi_xt0 ?_ | refine bi_xt1 ?_ | refine bi_xt2 ?_ | refine bi_xt3 ?_ | refine bi_T ?_ | refine bi_F ?_ | refine bi_not ?_ | refine bi_and ?_ | refine bi_or ?_ | refine bi_xor ?_ | refine bi_shr (by omega) (by decide) ?_ | refine bi_shl (by omega) (by decide) ?_ | refine bi_quo64 (by omega) ?_ | refine bi_rem64 (by omega) ?_ | refine bi_mul64 (by omega) ?_ | refine bi_neg ?_ | refine bi_un_xor32 ?_ | refine bi_add ?_ | refine bi_sub ?_ | refine bi_mul ?_ | refine bi_quo (by decide) ?_ | refine bi_rem (by decide) ?_)
    rw [keep0_fail hne] at h8
    refine (Look_V id n h8).mono ?_
    rintro _ w9 ⟨p9, rfl, hop9, hfp9, hb9⟩
    have h1p : p9.oneCell' = true := by obtain ⟨A, e⟩ := hop9.slice; rw [e]; rfl
    (repeat with_reducible first | refine nck ?_ | refine cdT ?_ | refine cdF ?_ | refine gdY ?_ | refine gdFT ?_ | refine gdTF ?_ | refine gdU ?_ | refine gaY ?_ | refine gaFT ?_ | refine gaTF ?_ | refine pickT ?_ | refine pickF ?_ | refine bi_lss_t (by omega) ?_ | refine bi_lss_f (by omega) ?_ | refine bi_add64 (by omega) ?_ | refine bi_sub64 (by omega) ?_ | refine bi_eql_t (by omega) ?_ | refine bi_eql_f (by omega) ?_ | refine bi_neq_t (by omega) ?_ | refine bi_neq_f (by omega) ?_ | refine bi_gtr_t (by omega) ?_ | refine bi_gtr_f (by omega) ?_ | refine bi_leq_t (by omega) ?_ | refine bi_leq_f (by omega) ?_ | refine bi_geq_t (by omega) ?_ | refine bi_geq_f (by omega) ?_ | refine bi_xt0 ?_ | refine bi_xt1 ?_ | refine bi_xt2 ?_ | refine bi_xt3 ?_ | refine bi_T ?_ | refine bi_F ?_ | refine bi_not ?_ | refine bi_and ?_ | refine bi_or ?_ | refine bi_xor ?_ | refine bi_shr (by omega) (by decide) ?_ | refine bi_shl (by omega) (by decide) ?_ | refine bi_quo64 (by omega) ?_ | refine bi_rem64 (by omega) ?_ | refine bi_mul64 (by omega) ?_ | refine bi_neg ?_ | refine bi_un_xor32 ?_ | refine bi_add ?_ | refine bi_sub ?_ | refine bi_mul ?_ | refine bi_quo (by decide) ?_ | refine bi_rem (by decide) ?_)
    refine newRep h1p rfl ?_
    intro w10 _ hb10
    have hb := below_then (below_then hb8' hb9) hb10
    rcases look0 id n with e | e
    · rw [e]
      (repeat with_reducible first | refine nck ?_ | refine cdT ?_ | refine cdF ?_ | refine gdY ?_ | refine gdFT ?_ | refine gdTF ?_ | refine gdU ?_ | refine gaY ?_ | refine gaFT ?_ | refine gaTF ?_ | refine pickT ?_ | refine pickF ?_ | refine bi_lss_t (by omega) ?_ | refine bi_lss_f (by omega) ?_ | refine bi_add64 (by omega) ?_ | refine bi_sub64 (by omega) ?_ | refine bi_eql_t (by omega) ?_ | refine bi_eql_f (by omega) ?_ | refine bi_neq_t (by omega) ?_ | refine bi_neq_f (by omega) ?_ | refine bi_gtr_t (by omega) ?_ | refine bi_gtr_f (by omega) ?_ | refine bi_leq_t (by omega) ?_ | refine bi_leq_f (by omega) ?_ | refine bi_geq_t (by omega) ?_ | refine bi_geq_f (by omega) ?_ | refine bi_xt0 ?_ | refine bi_xt1 ?_ | refine bi_xt2 ?_ | refine bi_xt3 ?_ | refine bi_T ?_ | refine bi_F ?_ | refine bi_not ?_ | refine bi_and ?_ | refine bi_or ?_ | refine bi_xor ?_ | refine bi_shr (by omega) (by decide) ?_ | refine bi_shl (by omega) (by decide) ?_ | refine bi_quo64 (by omega) ?_ | refine bi_rem64 (by omega) ?_ | refine bi_mul64 (by omega) ?_ | refine bi_neg ?_ | refine bi_un_xor32 ?_ | refine bi_add ?_ | refine bi_sub ?_ | refine bi_mul ?_ | refine bi_quo (by decide) ?_ | refine bi_rem (by decide) ?_)
      exact ⟨rfl, hb⟩
    · rw [e]
      (repeat with_reducible first | refine nck ?_ | refine cdT ?_ | refine cdF ?_ | refine gdY ?_ | refine gdFT ?_ | refine gdTF ?_ | refine gdU ?_ | refine gaY ?_ | refine gaFT ?_ | refine gaTF ?_ | refine pickT ?_ | refine pickF ?_ | refine bi_lss_t (by omega) ?_ | refine bi_lss_f (by omega) ?_ | refine bi_add64 (by omega) ?_ | refine bi_sub64 (by omega) ?_ | refine bi_eql_t (by omega) ?_ | refine bi_eql_f (by omega) ?_ | refine bi_neq_t (by omega) ?_ | refine bi_neq_f (by omega) ?_ | refine bi_gtr_t (by omega) ?_ | refine bi_gtr_f (by omega) ?_ | refine bi_leq_t (by omega) ?_ | refine bi_leq_f (by omega) ?_ | refine bi_geq_t (by omega) ?_ | refine bi_geq_f (by omega) ?_ | refine bi_xt0 ?_ | refine bi_xt1 ?_ | refine bi_xt2 ?_ | refine bi_xt3 ?_ | refine bi_T ?_ | refine bi_F ?_ | refine bi_not ?_ | refine bi_and ?_ | refine bi_or ?_ | refine bi_xor ?_ | refine bi_shr (by omega) (by decide) ?_ | refine bi_shl (by omega) (by decide) ?_ | refine bi_quo64 (by omega) ?_ | refine bi_rem64 (by omega) ?_ | refine bi_mul64 (by omega) ?_ | refine bi_neg ?_ | refine bi_un_xor32 ?_ | refine bi_add ?_ | refine bi_sub ?_ | refine bi_mul ?_ | refine bi_quo (by decide) ?_ | refine bi_rem (by decide) ?_)
      exact ⟨rfl, hb⟩
  · have hok : (keepQ V0 id n R vs rows.length).1 = 0 := by simpa using heq
    obtain ⟨hrows, hlook⟩ := keep0_ok hok
    have hrows : rows = [] := List.eq_nil_of_length_eq_zero hrows
    (repeat with_reducible first | refine nck ?_ | refine cdT ?_ | refine cdF ?_ | refine gdY ?_ | refine gdFT ?_ | refine gdTF ?_ | refine gdU ?_ | refine gaY ?_ | refine gaFT ?_ | refine gaTF ?_ | refine pickT ?_ | refine pickF ?_ | refine bi_lss_t (by omega) ?_ | refine bi_lss_f (by omega) ?_ | refine bi_add64 (by omega) ?_ | refine bi_sub64 (by omega) ?_ | refine bi_eql_t (by omega) ?_ | refine bi_eql_f (by omega) ?_ | refine bi_neq_t (by omega) ?_ | refine bi_neq_f (by omega) ?_ | refine bi_gtr_t (by omega) ?_ | refine bi_gtr_f (by omega) ?_ | refine bi_leq_t (by omega) ?_ | refine bi_leq_f (by omega) ?_ | refine bi_geq_t (by omega) ?_ | refine bi_geq_f (by omega) ?_ | refine bi_xt0 ?_ | refine bi_xt1 ?_ | refine bi_xt2 ?_ | refine bi_xt3 ?_ | refine bi_T ?_ | refine bi_F ?_ | refine bi_not ?_ | refine bi_and ?_ | refine bi_or ?_ | refine bi_xor ?_ | refine bi_shr (by omega) (by decide) ?_ | refine bi_shl (by omega) (by decide) ?_ | refine bi_quo64 (by omega) ?_ | refine bi_rem64 (by omega) ?_ | refine bi_mul64 (by omega) ?_ | refine bi_neg ?_ | refine bi_un_xor32 ?_ | refine bi_add ?_ | refine bi_sub ?_ | refine bi_mul ?_ | refine bi_quo (by decide) ?_ | refine bi_rem (by decide) ?_)
    refine scribble go R v5 _ vs.length _ w8 (by omega) hO8 ho8 ?_
    intro w9 cs9 hO9 ho9 hT9
    have hcv : ∀ k, v5.ownBlock = some k → c8 k % 1000 ≠ 1 := fun k hk => by rw [hc8z k (ho6.lt hk)]; decide
    have h9 := h8.turns hT9 hcv
    have hlv : ∀ k, v5.ownBlock = some k → w3.heap.size ≤ k := hf5
    have hb89 : Below w3.heap.size w8 w9 := hT9.below (by have := hb35.size; have := hT6.size; have := hb68.size; omega) fun k hk e => by have := hlv k e; omega
    have hb9' : Below w.heap.size w w9 := hb8'.trans (hb89.mono (by omega))
    have hB9 : Blk w9 w.heap.size 27 _ := hB8.below hb89 (by omega)
    refine (Look_V id n h9).mono ?_
    rintro _ w10 ⟨p10, rfl, hop10, hfp10, hb10⟩
    rw [hlook] at hop10 ⊢
    have h1p : p10.oneCell' = true := by obtain ⟨A, e⟩ := hop10.slice; rw [e]; rfl
    (repeat with_reducible first | refine nck ?_ | refine cdT ?_ | refine cdF ?_ | refine gdY ?_ | refine gdFT ?_ | refine gdTF ?_ | refine gdU ?_ | refine gaY ?_ | refine gaFT ?_ | refine gaTF ?_ | refine pickT ?_ | refine pickF ?_ | refine bi_lss_t (by omega) ?_ | refine bi_lss_f (by omega) ?_ | refine bi_add64 (by omega) ?_ | refine bi_sub64 (by omega) ?_ | refine bi_eql_t (by omega) ?_ | refine bi_eql_f (by omega) ?_ | refine bi_neq_t (by omega) ?_ | refine bi_neq_f (by omega) ?_ | refine bi_gtr_t (by omega) ?_ | refine bi_gtr_f (by omega) ?_ | refine bi_leq_t (by omega) ?_ | refine bi_leq_f (by omega) ?_ | refine bi_geq_t (by omega) ?_ | refine bi_geq_f (by omega) ?_ | refine bi_xt0 ?_ | refine bi_xt1 ?_ | refine bi_xt2 ?_ | refine bi_xt3 ?_ | refine bi_T ?_ | refine bi_F ?_ | refine bi_not ?_ | refine bi_and ?_ | refine bi_or ?_ | refine bi_xor ?_ | refine bi_shr (by omega) (by decide) ?_ | refine bi_shl (by omega) (by decide) ?_ | refine bi_quo64 (by omega) ?_ | refine bi_rem64 (by omega) ?_ | refine bi_mul64 (by omega) ?_ | refine bi_neg ?_ | refine bi_un_xor32 ?_ | refine bi_add ?_ | refine bi_sub ?_ | refine bi_mul ?_ | refine bi_quo (by decide) ?_ | refine bi_rem (by decide) ?_)
    refine newRep h1p rfl ?_
    intro w11 hM11 hb11
    have hop11 := (hop10.below hb11).r
    have h11 := (h9.below hb10).below hb11
    have hb911 := below_then hb10 hb11
    have hB11 := hB9.below' hb911
    have hs9 := hb9'.size
    have hs10 := hb10.size
    have hBl := hB9.lt
    refine scribble w10.heap.size (toldQR (some (R, vs))) p10 _ (toldQV (some (R, vs))).length _ w11 (show vs.length ≤ 1000 by omega) hM11 hop11 ?_
    intro w12 cs12 hM12 ho12 hT12
    have hb12 : Below w9.heap.size w11 w12 := hT12.below hb911.size fun k hk e => by have := hfp10 k e; omega
    have hre : TabV 1 (col c8 w9.heap.size 0) w9 g (keepQ V0 id n R vs rows.length).2 (0 + 1) := h9.re (col_lt _ _ _)
    have h12 := (hre.below hb911).turns hT12 (fun k hk => by rw [col_ge _ _ _ (hfp10 k hk)]; decide)
    have hb12' : Below w.heap.size w w12 := (below_then hb9' hb911).trans (hb12.mono (by omega))
    have hB12 := hB11.below hb12 hBl
    refine (Look_V id n h12).mono ?_
    rintro _ w13 ⟨p13, rfl, hop13, hfp13, hb13⟩
    rw [hlook] at hop13 ⊢
    have h1p13 : p13.oneCell' = true := by obtain ⟨A, e⟩ := hop13.slice; rw [e]; rfl
    (repeat with_reducible first | refine nck ?_ | refine cdT ?_ | refine cdF ?_ | refine gdY ?_ | refine gdFT ?_ | refine gdTF ?_ | refine gdU ?_ | refine gaY ?_ | refine gaFT ?_ | refine gaTF ?_ | refine pickT ?_ | refine pickF ?_ | refine bi_lss_t (by omega) ?_ | refine bi_lss_f (by omega) ?_ | refine bi_add64 (by omega) ?_ | refine bi_sub64 (by omega) ?_ | refine bi_eql_t (by omega) ?_ | refine bi_eql_f (by omega) ?_ | refine bi_neq_t (by omega) ?_ | refine bi_neq_f (by omega) ?_ | refine bi_gtr_t (by omega) ?_ | refine bi_gtr_f (by omega) ?_ | refine bi_leq_t (by omega) ?_ | refine bi_leq_f (by omega) ?_ | refine bi_geq_t (by omega) ?_ | refine bi_geq_f (by omega) ?_ | refine bi_xt0 ?_ | refine bi_xt1 ?_ | refine bi_xt2 ?_ | refine bi_xt3 ?_ | refine bi_T ?_ | refine bi_F ?_ | refine bi_not ?_ | refine bi_and ?_ | refine bi_or ?_ | refine bi_xor ?_ | refine bi_shr (by omega) (by decide) ?_ | refine bi_shl (by omega) (by decide) ?_ | refine bi_quo64 (by omega) ?_ | refine bi_rem64 (by omega) ?_ | refine bi_mul64 (by omega) ?_ | refine bi_neg ?_ | refine bi_un_xor32 ?_ | refine bi_add ?_ | refine bi_sub ?_ | refine bi_mul ?_ | refine bi_quo (by decide) ?_ | refine bi_rem (by decide) ?_)
    refine newRep h1p13 rfl ?_
    intro w14 hN14 hb14
    have hop14 := hop13.below hb14
    have hb1314 := below_then hb13 hb14
    have hb14' := below_then hb12' hb1314
    have hB14 := hB12.below' hb1314
    refine ieq_T ?_
    (repeat with_reducible first | refine nck ?_ | refine cdT ?_ | refine cdF ?_ | refine gdY ?_ | refine gdFT ?_ | refine gdTF ?_ | refine gdU ?_ | refine gaY ?_ | refine gaFT ?_ | refine gaTF ?_ | refine pickT ?_ | refine pickF ?_ | refine bi_lss_t (by omega) ?_ | refine bi_lss_f (by omega) ?_ | refine bi_add64 (by omega) ?_ | refine bi_sub64 (by omega) ?_ | refine bi_eql_t (by omega) ?_ | refine bi_eql_f (by omega) ?_ | refine bi_neq_t (by omega) ?_ | refine bi_neq_f (by omega) ?_ | refine bi_gtr_t (by omega) ?_ | refine bi_gtr_f (by omega) ?_ | refine bi_leq_t (by omega) ?_ | refine bi_leq_f (by omega) ?_ | refine bi_geq_t (by omega) ?_ | refine bi_geq_f (by omega) ?_ | refine bi_xt0 ?_ | refine bi_xt1 ?_ | refine bi_xt2 ?_ | refine bi_xt3 ?_ | refine bi_T ?_ | refine bi_F ?_ | refine bi_not ?_ | refine bi_and ?_ | refine bi_or ?_ | refine bi_xor ?_ | refine bi_shr (by omega) (by decide) ?_ | refine bi_shl (by omega) (by decide) ?_ | refine bi_quo64 (by omega) ?_ | refine bi_rem64 (by omega) ?_ | refine bi_mul64 (by omega) ?_ | refine bi_neg ?_ | refine bi_un_xor32 ?_ | refine bi_add ?_ | refine bi_sub ?_ | refine bi_mul ?_ | refine bi_quo (by decide) ?_ | refine bi_rem (by decide) ?_)
    refine ldA agg27 hN14 (by exact sz27) ?_
    (repeat with_reducible first | refine nck ?_ | refine cdT ?_ | refine cdF ?_ | refine gdY ?_ | refine gdFT ?_ | refine gdTF ?_ | refine gdU ?_ | refine gaY ?_ | refine gaFT ?_ | refine gaTF ?_ | refine pickT ?_ | refine pickF ?_ | refine bi_lss_t (by omega) ?_ | refine bi_lss_f (by omega) ?_ | refine bi_add64 (by omega) ?_ | refine bi_sub64 (by omega) ?_ | refine bi_eql_t (by omega) ?_ | refine bi_eql_f (by omega) ?_ | refine bi_neq_t (by omega) ?_ | refine bi_neq_f (by omega) ?_ | refine bi_gtr_t (by omega) ?_ | refine bi_gtr_f (by omega) ?_ | refine bi_leq_t (by omega) ?_ | refine bi_leq_f (by omega) ?_ | refine bi_geq_t (by omega) ?_ | refine bi_geq_f (by omega) ?_ | refine bi_xt0 ?_ | refine bi_xt1 ?_ | refine bi_xt2 ?_ | refine bi_xt3 ?_ | refine bi_T ?_ | refine bi_F ?_ | refine bi_not ?_ | refine bi_and ?_ | refine bi_or ?_ | refine bi_xor ?_ | refine bi_shr (by omega) (by decide) ?_ | refine bi_shl (by omega) (by decide) ?_ | refine bi_quo64 (by omega) ?_ | refine bi_rem64 (by omega) ?_ | refine bi_mul64 (by omega) ?_ | refine bi_neg ?_ | refine bi_un_xor32 ?_ | refine bi_add ?_ | refine bi_sub ?_ | refine bi_mul ?_ | refine bi_quo (by decide) ?_ | refine bi_rem (by decide) ?_)
    refine ldA agg27 hB14 (by exact sz27) ?_
    (repeat with_reducible first | refine nck ?_ | refine cdT ?_ | refine cdF ?_ | refine gdY ?_ | refine gdFT ?_ | refine gdTF ?_ | refine gdU ?_ | refine gaY ?_ | refine gaFT ?_ | refine gaTF ?_ | refine pickT ?_ | refine pickF ?_ | refine bi_lss_t (by omega) ?_ | refine bi_lss_f (by omega) ?_ | refine bi_add64 (by omega) ?_ | refine bi_sub64 (by omega) ?_ | refine bi_eql_t (by omega) ?_ | refine bi_eql_f (by omega) ?_ | refine bi_neq_t (by omega) ?_ | refine bi_neq_f (by omega) ?_ | refine bi_gtr_t (by omega) ?_ | refine bi_gtr_f (by omega) ?_ | refine bi_leq_t (by omega) ?_ | refine bi_leq_f (by omega) ?_ | refine bi_geq_t (by omega) ?_ | refine bi_geq_f (by omega) ?_ | refine bi_xt0 ?_ | refine bi_xt1 ?_ | refine bi_xt2 ?_ | refine bi_xt3 ?_ | refine bi_T ?_ | refine bi_F ?_ | refine bi_not ?_ | refine bi_and ?_ | refine bi_or ?_ | refine bi_xor ?_ | refine bi_shr (by omega) (by decide) ?_ | refine bi_shl (by omega) (by decide) ?_ | refine bi_quo64 (by omega) ?_ | refine bi_rem64 (by omega) ?_ | refine bi_mul64 (by omega) ?_ | refine bi_neg ?_ | refine bi_un_xor32 ?_ | refine bi_add ?_ | refine bi_sub ?_ | refine bi_mul ?_ | refine bi_quo (by decide) ?_ | refine bi_rem (by decide) ?_)
    have hvb : Vals w14 [p13] vs := hop14.rd (l := vs) (fun _ => rfl) fun x hx => rVal_of (vals_ok hp x hx)
    have hq14 := keeps_RowsR _ _ _ _ hb14' hq
    rw [hrows] at hq14
    refine (sameRep_spec R _ _ _ _ vs w14 hvb (keeps_Vals _ _ _ _ hb14' hp) (RowsR.nil _ 0 (by decide)) (by rw [hrows]; exact hq14)).mono ?_
    rintro _ w15 ⟨rfl, hb15⟩
    (repeat with_reducible first | refine nck ?_ | refine cdT ?_ | refine cdF ?_ | refine gdY ?_ | refine gdFT ?_ | refine gdTF ?_ | refine gdU ?_ | refine gaY ?_ | refine gaFT ?_ | refine gaTF ?_ | refine pickT ?_ | refine pickF ?_ | refine bi_lss_t (by omega) ?_ | refine bi_lss_f (by omega) ?_ | refine bi_add64 (by omega) ?_ | refine bi_sub64 (by omega) ?_ | refine bi_eql_t (by omega) ?_ | refine bi_eql_f (by omega) ?_ | refine bi_neq_t (by omega) ?_ | refine bi_neq_f (by omega) ?_ | refine bi_gtr_t (by omega) ?_ | refine bi_gtr_f (by omega) ?_ | refine bi_leq_t (by omega) ?_ | refine bi_leq_f (by omega) ?_ | refine bi_geq_t (by omega) ?_ | refine bi_geq_f (by omega) ?_ | refine bi_xt0 ?_ | refine bi_xt1 ?_ | refine bi_xt2 ?_ | refine bi_xt3 ?_ | refine bi_T ?_ | refine bi_F ?_ | refine bi_not ?_ | refine bi_and ?_ | refine bi_or ?_ | refine bi_xor ?_ | refine bi_shr (by omega) (by decide) ?_ | refine bi_shl (by omega) (by decide) ?_ | refine bi_quo64 (by omega) ?_ | refine bi_rem64 (by omega) ?_ | refine bi_mul64 (by omega) ?_ | refine bi_neg ?_ | refine bi_un_xor32 ?_ | refine bi_add ?_ | refine bi_sub ?_ | refine bi_mul ?_ | refine bi_quo (by decide) ?_ | refine bi_rem (by decide) ?_)
    exact ⟨rfl, below_then hb14' hb15⟩
theorem OnceKeeps_law (id n : Int) (c : Array Value) (z : ReplyT) (w : World) (h : rReply w c.toList z) : CallP Try.prog 3 #[.int .i64 id, .int .i64 n, .agg c] (fun r w' => r = .bool true ∧ Below w.heap.size w w') w := by
  obtain ⟨p, q, e, hp, hq⟩ := reply_cells h
  have : c = (⟨z.1, z.2.1, z.2.2.2.2.1⟩ : Rep).cells p q := by rw [← Array.toArray_toList (xs := c), e, Array.toArray_toList]
  subst this
  exact OnceKeeps_spec id n _ p q _ _ w hp hq
end Go.Proofs.Ytmnaggdhkggjhaa.E
/- Known; rows of calls. -/
namespace Go.Proofs.Ytmnaggdhkggjhaa.E
open Go Go.Proofs Go.RowKit Go.Maps Go.Sort Go.Shelf
set_option linter.unusedSimpArgs false
set_option linter.unusedVariables false

theorem sortsA (m : Nat) : AnyZI.SortsIn Try.prog sortedA_ren Fence.wide m :=
  ⟨fun blk off cap ss W hH hblk hsz => callsIn_wide.2 (AnyM.slices_Sort_int sortA blk off cap ss W hH hblk hsz),
   fun p cap W => callsIn_wide.2 (AnyM.slices_Sort_int_none sortA p cap W)⟩
theorem sorted_spec (b g : Nat) (l : List (Int × Value)) (w : World) (h : MapI w b l) (hg : w.cell? ⟨g, 0, none⟩ = some (.map (some b))) (hl : l.length ≤ 1000000) :
    CallP Try.prog 36 #[.func (.func 52) #[] #[.pointer (some ⟨g, 0, none⟩)]] (fun r w' => Own 3 w' r (((l.map (·.1)).mergeSort leI).map (Value.int .i64)) ∧ Fresh w.heap.size r ∧ Below w.heap.size w w') w := by
  obtain ⟨D0, hown, hperm, hsize⟩ := h.owns
  have hseq : SeqGives Fence.wide 2 Try.prog 52 #[.pointer (some ⟨g, 0, none⟩)] encZ (fun ss => ss.Perm (intKeys D0)) (Maps.size D0) w :=
    AnyZI.keys_gives (ρ := keysA_ren) { keysA with } Fence.wide _ trivial rfl (by omega) g b l.length D0 _ (World.block_lt_of_cell? _ _ hg) hg hown
  have cS := AnyZI.sorted_in sortedA Fence.wide 5 trivial trivial trivial trivial rfl (by omega) (sortsA _) (enters_of Try.func51 (by kernel_rfl) rfl) 52 #[.pointer (some ⟨g, 0, none⟩)] trivial (enters_of Try.func52 (by kernel_rfl) rfl) _ _ (by rw [hsize]; simp only [maxLen]; omega) (by rw [hsize]; omega) _ hseq
  change CallsIn _ _ Try.prog 36 _ _ _ at cS
  refine ⟨(callsIn_wide.1 cS).mono fun e w' ⟨v, ss, h1, hS, hrow, hnil, hb⟩ => ⟨v, h1, ?_, ?_, hb⟩⟩
  · have e1 : ss.mergeSort (fun x y => decide (x ≤ y)) = (l.map (·.1)).mergeSort leI := mergeSort_of_perm_i (hS.trans hperm)
    rw [e1] at hrow
    have hlen : (((l.map (·.1)).mergeSort leI).map (Value.int .i64)).length = ss.length := by
      rw [List.length_map, ← e1, List.length_mergeSort]
    refine ⟨by simp, ?_⟩
    rw [hlen]
    rcases hrow.2 with h | ⟨gb, cap, cur, rfl, hbase, hgb, r1, r2, r3, r4⟩
    · exact .inl h
    · exact .inr ⟨gb, cap, cur, rfl, Nat.zero_le _, hgb, r1, r2, r3, r4⟩
  · intro k hk
    rcases hrow.2 with ⟨rfl, _⟩ | ⟨gb, cap, cur, rfl, hbase, _⟩
    · cases hk
    · have : gb = k := by simpa [Value.ownBlock] using hk
      omega
theorem rising_sorted {α : Type} {l : List (Int × α)} (h : Rising l) : (l.map (·.1)).mergeSort leI = l.map (·.1) :=
  List.mergeSort_of_pairwise (List.pairwise_map.2 (h.imp fun hlt => by simp only [leI, decide_eq_true_eq]; omega))
theorem Known_V {hu : Nat} {c : Nat → Nat} {w : World} {g : Nat} {V : Int → VC} {N : Nat} (id : Int) (h : TabV hu c w g V N) :
    CallP Try.prog 20 #[.pointer (some ⟨g, 0, none⟩), .int .i64 id] (fun r w' => Own 3 w' r (((V id).2.map (·.1)).map (Value.int .i64)) ∧ Fresh w.heap.size r ∧ Below w.heap.size w w') w := by
  obtain ⟨T, ⟨bm, h1⟩, h2, h3⟩ := h.out
  have hgood := h.good id
  have hsee := h3 id
  refine ⟨S20.calls _ _ _ _ ?_⟩
  unfold S20
  have c0 : w.cell? ⟨g, 0, none⟩ = some (.map (some bm)) := h1.blk.cell 0
  (repeat with_reducible first | refine fd t0 (by decide) ?_ | refine ld one58 c0 ?_ | refine nck ?_ | refine cdT ?_ | refine cdF ?_ | refine gdY ?_ | refine gdFT ?_ | refine gdTF ?_ | refine gdU ?_ | refine gaY ?_ | refine gaFT ?_ | refine gaTF ?_ | refine pickT ?_ | refine pickF ?_ | refine bi_lss_t (by omega) ?_ | refine bi_lss_f (by omega) ?_ | refine bi_add64 (by omega) ?_ | refine bi_sub64 (by omega) ?_ | refine bi_eql_t (by omega) ?_ | refine bi_eql_f (by omega) ?_ | refine bi_neq_t (by omega) ?_ | refine bi_neq_f (by omega) ?_ | refine bi_gtr_t (by omega) ?_ | refine bi_gtr_f (by omega) ?_ | refine bi_leq_t (by omega) ?_ | refine bi_leq_f (by omega) ?_ | refine bi_geq_t (by omega) ?_ | refine bi_geq_f (by omega) ?_ | refine bi_xt0 ?_ | refine bi_xt1 ?_ | refine bi_xt2 ?_ | refine bi_xt3 ?_ | refine bi_T ?_ | refine bi_F ?_ | refine bi_not ?_ | refine bi_and ?_ | refine bi_or ?_ | refine bi_xor ?_ | refine bi_shr (by omega) (by decide) ?_ | refine bi_shl (by omega) (by decide) ?_ | refine bi_quo64 (by omega) ?_ | refine bi_rem64 (by omega) ?_ | refine bi_mul64 (by omega) ?_ | refine bi_neg ?_ | refine bi_un_xor32 ?_ | refine bi_add ?_ | refine bi_sub ?_ | refine bi_mul ?_ | refine bi_quo (by decide) ?_ | refine bi_rem (by decide) ?_)
  refine lkq und58 und3 z63 h1.map ?_
  rw [getK_map (fun C : Cli => Value.pointer (some ⟨C.gc, 0, none⟩))]
  cases hx : getK id T with
  | none =>
    rw [hx] at hsee
    have hv : V id = (0, []) := hsee
    simp only [Option.map_none, Option.getD_none]
    refine ofPR (pr_pnot und63) ?_
    simp only [Option.isSome_none]
    (repeat with_reducible first | refine nck ?_ | refine cdT ?_ | refine cdF ?_ | refine gdY ?_ | refine gdFT ?_ | refine gdTF ?_ | refine gdU ?_ | refine gaY ?_ | refine gaFT ?_ | refine gaTF ?_ | refine pickT ?_ | refine pickF ?_ | refine bi_lss_t (by omega) ?_ | refine bi_lss_f (by omega) ?_ | refine bi_add64 (by omega) ?_ | refine bi_sub64 (by omega) ?_ | refine bi_eql_t (by omega) ?_ | refine bi_eql_f (by omega) ?_ | refine bi_neq_t (by omega) ?_ | refine bi_neq_f (by omega) ?_ | refine bi_gtr_t (by omega) ?_ | refine bi_gtr_f (by omega) ?_ | refine bi_leq_t (by omega) ?_ | refine bi_leq_f (by omega) ?_ | refine bi_geq_t (by omega) ?_ | refine bi_geq_f (by omega) ?_ | refine bi_xt0 ?_ | refine bi_xt1 ?_ | refine bi_xt2 ?_ | refine bi_xt3 ?_ | refine bi_T ?_ | refine bi_F ?_ | refine bi_not ?_ | refine bi_and ?_ | refine bi_or ?_ | refine bi_xor ?_ | refine bi_shr (by omega) (by decide) ?_ | refine bi_shl (by omega) (by decide) ?_ | refine bi_quo64 (by omega) ?_ | refine bi_rem64 (by omega) ?_ | refine bi_mul64 (by omega) ?_ | refine bi_neg ?_ | refine bi_un_xor32 ?_ | refine bi_add ?_ | refine bi_sub ?_ | refine bi_mul ?_ | refine bi_quo (by decide) ?_ | refine bi_rem (by decide) ?_)
    rw [hv]
    exact ⟨Own.nil 3 w, Fresh.nil _, Below.refl _ w⟩
  | some C =>
    rw [hx] at hsee
    have hs : Sees C (V id) := hsee
    simp only [Option.map_some, Option.getD_some]
    refine ofPR (pr_pnot und63) ?_
    have hC := (h1.el _ (getK_mem _ _ _ hx)).2
    have e1 : w.cell? ⟨C.gc, 1, none⟩ = some (.map (some C.br)) := hC.blk.cell 1
    simp only [Option.isSome_some]
    (repeat with_reducible first | refine fd k1 (by decide) ?_ | refine ld one66 e1 ?_ | refine nck ?_ | refine cdT ?_ | refine cdF ?_ | refine gdY ?_ | refine gdFT ?_ | refine gdTF ?_ | refine gdU ?_ | refine gaY ?_ | refine gaFT ?_ | refine gaTF ?_ | refine pickT ?_ | refine pickF ?_ | refine bi_lss_t (by omega) ?_ | refine bi_lss_f (by omega) ?_ | refine bi_add64 (by omega) ?_ | refine bi_sub64 (by omega) ?_ | refine bi_eql_t (by omega) ?_ | refine bi_eql_f (by omega) ?_ | refine bi_neq_t (by omega) ?_ | refine bi_neq_f (by omega) ?_ | refine bi_gtr_t (by omega) ?_ | refine bi_gtr_f (by omega) ?_ | refine bi_leq_t (by omega) ?_ | refine bi_leq_f (by omega) ?_ | refine bi_geq_t (by omega) ?_ | refine bi_geq_f (by omega) ?_ | refine bi_xt0 ?_ | refine bi_xt1 ?_ | refine bi_xt2 ?_ | refine bi_xt3 ?_ | refine bi_T ?_ | refine bi_F ?_ | refine bi_not ?_ | refine bi_and ?_ | refine bi_or ?_ | refine bi_xor ?_ | refine bi_shr (by omega) (by decide) ?_ | refine bi_shl (by omega) (by decide) ?_ | refine bi_quo64 (by omega) ?_ | refine bi_rem64 (by omega) ?_ | refine bi_mul64 (by omega) ?_ | refine bi_neg ?_ | refine bi_un_xor32 ?_ | refine bi_add ?_ | refine bi_sub ?_ | refine bi_mul ?_ | refine bi_quo (by decide) ?_ | refine bi_rem (by decide) ?_)
    refine (keys_spec C.br w).mono ?_
    rintro _ _ ⟨rfl, rfl⟩
    have hb := (Below.refl w.heap.size w).alloc (Nat.le_refl _) (.cells #[.map (some C.br)] 66)
    have hB : Blk (w.alloc (.cells #[.map (some C.br)] 66)) w.heap.size 66 #[.map (some C.br)] := Blk.new w 66 _
    have hl := hs.l.length_eq
    have h4 := hgood.len
    simp only [absL, List.length_map] at hl
    refine (sorted_spec C.br w.heap.size _ _ (hC.map.below hb) (hB.cell 0) (by rw [List.length_map]; show C.l.length ≤ _; omega)).mono ?_
    rintro r w' ⟨g1, g2, g3⟩
    rw [List.map_map] at g1
    have hk : (C.l.map (·.1)).mergeSort leI = (V id).2.map (·.1) := by
      rw [mergeSort_of_perm_i hs.keys, rising_sorted hgood.rise]
    have g1' : Own 3 w' r (((C.l.map (·.1)).mergeSort leI).map (Value.int .i64)) := g1
    rw [hk] at g1'
    exact ⟨g1', fun k hk => by have := g2 k hk; have := hb.size; omega, below_then hb g3⟩
theorem sameInts_spec (v v' : Value) (ys : List Int) (w : World) (hv : Rd w v (ys.map (Value.int .i64))) (hv' : Rd w v' (ys.map (Value.int .i64))) (hl : ys.length ≤ 1000000) :
    CallP Try.prog 19 #[v, v'] (fun r w' => r = .bool true ∧ Below w.heap.size w w') w := by
  obtain ⟨A, c, rfl, _, _⟩ := hv.slice
  obtain ⟨A', c', rfl, _, _⟩ := hv'.slice
  have hlen : (ys.map (Value.int .i64)).length = ys.length := List.length_map _
  rw [hlen] at hv hv' ⊢
  refine ⟨S19.calls _ _ _ _ ?_⟩
  unfold S19
  refine ln und51 ?_
  refine ln und51 ?_
  refine bi_neq_c (fun h => absurd rfl h) (fun _ => ?_)
  (repeat with_reducible first | refine nck ?_ | refine cdT ?_ | refine cdF ?_ | refine gdY ?_ | refine gdFT ?_ | refine gdTF ?_ | refine gdU ?_ | refine gaY ?_ | refine gaFT ?_ | refine gaTF ?_ | refine pickT ?_ | refine pickF ?_ | refine bi_lss_t (by omega) ?_ | refine bi_lss_f (by omega) ?_ | refine bi_add64 (by omega) ?_ | refine bi_sub64 (by omega) ?_ | refine bi_eql_t (by omega) ?_ | refine bi_eql_f (by omega) ?_ | refine bi_neq_t (by omega) ?_ | refine bi_neq_f (by omega) ?_ | refine bi_gtr_t (by omega) ?_ | refine bi_gtr_f (by omega) ?_ | refine bi_leq_t (by omega) ?_ | refine bi_leq_f (by omega) ?_ | refine bi_geq_t (by omega) ?_ | refine bi_geq_f (by omega) ?_ | refine bi_xt0 ?_ | refine bi_xt1 ?_ | refine bi_xt2 ?_ | refine bi_xt3 ?_ | refine bi_T ?_ | refine bi_F ?_ | refine bi_not ?_ | refine bi_and ?_ | refine bi_or ?_ | refine bi_xor ?_ | refine bi_shr (by omega) (by decide) ?_ | refine bi_shl (by omega) (by decide) ?_ | refine bi_quo64 (by omega) ?_ | refine bi_rem64 (by omega) ?_ | refine bi_mul64 (by omega) ?_ | refine bi_neg ?_ | refine bi_un_xor32 ?_ | refine bi_add ?_ | refine bi_sub ?_ | refine bi_mul ?_ | refine bi_quo (by decide) ?_ | refine bi_rem (by decide) ?_)
  refine LoopP.inv1 (fun iv w' => ∃ k : Nat, k ≤ ys.length ∧ iv = .int .i64 k ∧ Below w.heap.size w w') (fun iv _ => ys.length - (intOf iv).toNat) ⟨0, by omega, rfl, Below.refl _ _⟩ ?_
  rintro _ w1 ⟨k, hk, rfl, hb1⟩ J hJ
  dsimp only [List.headD_cons, List.tail_cons]
  refine ln und51 ?_
  refine bi_lss_c (fun h => ?_) (fun h => ?_)
  · have hk' : k < ys.length := by omega
    obtain ⟨a, rfl, hca⟩ := Rd.atI hv k hk'
    obtain ⟨a', rfl, hca'⟩ := Rd.atI hv' k hk'
    have hdr : Below w1.heap.size w1 w1.drew := (Below.refl _ _).drew
    have e1 : ∀ w', Below w.heap.size w w' → w'.cell? (a.add k) = some (.int .i64 ys[k]) := fun w' h => by rw [h.cell (World.block_lt_of_cell? _ _ hca), hca]
    have e2 : ∀ w', Below w.heap.size w w' → w'.cell? (a'.add k) = some (.int .i64 ys[k]) := fun w' h => by rw [h.cell (World.block_lt_of_cell? _ _ hca'), hca']
    (repeat with_reducible first | refine nck ?_ | refine cdT ?_ | refine cdF ?_ | refine gdY ?_ | refine gdFT ?_ | refine gdTF ?_ | refine gdU ?_ | refine gaY ?_ | refine gaFT ?_ | refine gaTF ?_ | refine pickT ?_ | refine pickF ?_ | refine bi_lss_t (by omega) ?_ | refine bi_lss_f (by omega) ?_ | refine bi_add64 (by omega) ?_ | refine bi_sub64 (by omega) ?_ | refine bi_eql_t (by omega) ?_ | refine bi_eql_f (by omega) ?_ | refine bi_neq_t (by omega) ?_ | refine bi_neq_f (by omega) ?_ | refine bi_gtr_t (by omega) ?_ | refine bi_gtr_f (by omega) ?_ | refine bi_leq_t (by omega) ?_ | refine bi_leq_f (by omega) ?_ | refine bi_geq_t (by omega) ?_ | refine bi_geq_f (by omega) ?_ | refine bi_xt0 ?_ | refine bi_xt1 ?_ | refine bi_xt2 ?_ | refine bi_xt3 ?_ | refine bi_T ?_ | refine bi_F ?_ | refine bi_not ?_ | refine bi_and ?_ | refine bi_or ?_ | refine bi_xor ?_ | refine bi_shr (by omega) (by decide) ?_ | refine bi_shl (by omega) (by decide) ?_ | refine bi_quo64 (by omega) ?_ | refine bi_rem64 (by omega) ?_ | refine bi_mul64 (by omega) ?_ | refine bi_neg ?_ | refine bi_un_xor32 ?_ | refine bi_add ?_ | refine bi_sub ?_ | refine bi_mul ?_ | refine bi_quo (by decide) ?_ | refine bi_rem (by decide) ?_)
    refine draw (Below w.heap.size w) (below_then hb1 hdr) ?_
    refine yix1 und51 sz3 k hk' ?_
    refine yl1 one3 e1 ?_
    refine yix1 und51 sz3 k hk' ?_
    refine yl1 one3 e2 ?_
    refine yi_neq ?_
    rw [decide_eq_false (by simp)]
    (repeat with_reducible first | refine nck ?_ | refine cdT ?_ | refine cdF ?_ | refine gdY ?_ | refine gdFT ?_ | refine gdTF ?_ | refine gdU ?_ | refine gaY ?_ | refine gaFT ?_ | refine gaTF ?_ | refine pickT ?_ | refine pickF ?_ | refine bi_lss_t (by omega) ?_ | refine bi_lss_f (by omega) ?_ | refine bi_add64 (by omega) ?_ | refine bi_sub64 (by omega) ?_ | refine bi_eql_t (by omega) ?_ | refine bi_eql_f (by omega) ?_ | refine bi_neq_t (by omega) ?_ | refine bi_neq_f (by omega) ?_ | refine bi_gtr_t (by omega) ?_ | refine bi_gtr_f (by omega) ?_ | refine bi_leq_t (by omega) ?_ | refine bi_leq_f (by omega) ?_ | refine bi_geq_t (by omega) ?_ | refine bi_geq_f (by omega) ?_ | refine bi_xt0 ?_ | refine bi_xt1 ?_ | refine bi_xt2 ?_ | refine bi_xt3 ?_ | refine bi_T ?_ | refine bi_F ?_ | refine bi_not ?_ | refine bi_and ?_ | refine bi_or ?_ | refine bi_xor ?_ | refine bi_shr (by omega) (by decide) ?_ | refine bi_shl (by omega) (by decide) ?_ | refine bi_quo64 (by omega) ?_ | refine bi_rem64 (by omega) ?_ | refine bi_mul64 (by omega) ?_ | refine bi_neg ?_ | refine bi_un_xor32 ?_ | refine bi_add ?_ | refine bi_sub ?_ | refine bi_mul ?_ | refine bi_quo (by decide) ?_ | refine bi_rem (by decide) ?_)
    exact hJ _ _ ⟨k + 1, by omega, by simp, below_then hb1 hdr⟩ (by simp [intOf]; omega)
  · (repeat with_reducible first | refine nck ?_ | refine cdT ?_ | refine cdF ?_ | refine gdY ?_ | refine gdFT ?_ | refine gdTF ?_ | refine gdU ?_ | refine gaY ?_ | refine gaFT ?_ | refine gaTF ?_ | refine pickT ?_ | refine pickF ?_ | refine bi_lss_t (by omega) ?_ | refine bi_lss_f (by omega) ?_ | refine bi_add64 (by omega) ?_ | refine bi_sub64 (by omega) ?_ | refine bi_eql_t (by omega) ?_ | refine bi_eql_f (by omega) ?_ | refine bi_neq_t (by omega) ?_ | refine bi_neq_f (by omega) ?_ | refine bi_gtr_t (by omega) ?_ | refine bi_gtr_f (by omega) ?_ | refine bi_leq_t (by omega) ?_ | refine bi_leq_f (by omega) ?_ | refine bi_geq_t (by omega) ?_ | refine bi_geq_f (by omega) ?_ | refine bi_xt0 ?_ | refine bi_xt1 ?_ | refine bi_xt2 ?_ | refine bi_xt3 ?_ | refine bi_T ?_ | refine bi_F ?_ | refine bi_not ?_ | refine bi_and ?_ | refine bi_or ?_ | refine bi_xor ?_ | refine bi_shr (by omega) (by decide) ?_ | refine bi_shl (by omega) (by decide) ?_ | refine bi_quo64 (by omega) ?_ | refine bi_rem64 (by omega) ?_ | refine bi_mul64 (by omega) ?_ | refine bi_neg ?_ | refine bi_un_xor32 ?_ | refine bi_add ?_ | refine bi_sub ?_ | refine bi_mul ?_ | refine bi_quo (by decide) ?_ | refine bi_rem (by decide) ?_)
    exact ⟨rfl, hb1⟩
/-! ### calls that come in -/
abbrev ActT := Int × Int × Int × ReplyT × Unit
abbrev rAct : Rdr ActT := rCons 1 (rI .i64) (rCons 1 (rI .i64) (rCons 1 (rI .i64) (rCons 5 rReply rNil)))
abbrev Acts : Rdr (List ActT) := rRow 8 rAct
def repOf (z : ReplyT) : Rep := ⟨z.1, z.2.1, z.2.2.2.2.1⟩
def ActT.cl (x : ActT) : Int := x.2.1
def ActT.no (x : ActT) : Int := x.2.2.1
def ActT.rep (x : ActT) : Rep := repOf x.2.2.2.1
def ActT.vs (x : ActT) : List ValT := x.2.2.2.1.2.2.1
def ActT.rows (x : ActT) : List RowT := x.2.2.2.1.2.2.2.1
theorem und39 : Try.prog.underlying 39 = some (.slice 47) := by kernel_rfl
theorem sz47 : (Try.prog.info? 47).map (·.size) = some 8 := by kernel_rfl
theorem q0 : fofs Try.prog 47 0 = some (0, 1) := by kernel_rfl
theorem q1 : fofs Try.prog 47 1 = some (1, 1) := by kernel_rfl
theorem q2 : fofs Try.prog 47 2 = some (2, 1) := by kernel_rfl
theorem q3 : fofs Try.prog 47 3 = some (3, 5) := by kernel_rfl
theorem opens_Acts : Opens Try.prog 39 Acts := opens_row und39 (by kernel_rfl) (opens_struct Try.underlying47 (by kernel_rfl)
  (opensF_cons rfl (by kernel_rfl) (by decide) (opens_int und3) (opensF_cons rfl (by kernel_rfl) (by decide) (opens_int und3) (opensF_cons rfl (by kernel_rfl) (by decide) (opens_int und3) (opensF_cons rfl (by kernel_rfl) (by decide) opens_Reply opensF_nil)))))
theorem keeps_Reply : Keeps rReply := keeps_Cons (keeps_I _) (keeps_Cons keeps_Bool (keeps_Cons keeps_Vals (keeps_Cons keeps_RowsR (keeps_Cons (keeps_I _) keeps_Nil))))
theorem keeps_Acts : Keeps Acts := keeps_Row (keeps_Cons (keeps_I _) (keeps_Cons (keeps_I _) (keeps_Cons (keeps_I _) (keeps_Cons keeps_Reply keeps_Nil))))
/-- One call of a row. -/
theorem act_at {w : World} {A : Option Addr} {n c : Nat} {l : List ActT} (h : Acts w [.slice A n c] l) (i : Nat) (hi : i < l.length) :
    ∃ a p q, A = some a ∧ w.cell? ((a.add (i * 8)).add 0) = some (.int .i64 l[i].1) ∧ w.cell? ((a.add (i * 8)).add 1) = some (.int .i64 l[i].cl) ∧ w.cell? ((a.add (i * 8)).add 2) = some (.int .i64 l[i].no) ∧
      (∀ j u, (l[i].rep.cells p q).toList[j]? = some u → w.cell? (((a.add (i * 8)).add 3).add j) = some u) ∧ Vals w [p] l[i].vs ∧ RowsR w [q] l[i].rows := by
  obtain ⟨a, us, rfl, hus, hcell, hrd⟩ := rRow.at h i hi
  obtain ⟨r, rfl, _, hr⟩ := rCons_I hrd
  obtain ⟨r, rfl, _, hr⟩ := rCons_I hr
  obtain ⟨r, rfl, _, hr⟩ := rCons_I hr
  obtain ⟨h1, h2⟩ := hr
  obtain ⟨p, q, he, hp, hq⟩ := reply_cells h1
  have h0 : r.drop 5 = [] := h2
  have hr5 : r = (l[i].rep.cells p q).toList := by rw [← List.take_append_drop 5 r, h0, List.append_nil, he]; rfl
  refine ⟨a, p, q, rfl, hcell 0 _ rfl, hcell 1 _ rfl, hcell 2 _ rfl, fun j u hu => ?_, hp, hq⟩
  rw [Addr.add_add]
  refine hcell (3 + j) u ?_
  rw [← hr5] at hu
  rw [show 3 + j = j + 3 from by omega]
  exact hu
def lightA (x : ActT) : Prop := x.vs.length ≤ 301 ∧ (x.vs.map (·.2.2.1.size)).sum ≤ 300 ∧ x.rows.length ≤ 10
theorem lightActs_spec (v : Value) (l : List ActT) (w : World) (hv : Acts w [v] l) :
    CallP Try.prog 14 #[v] (fun r w' => ∃ b, r = .bool b ∧ (b = true → l.length < 100 ∧ ∀ x ∈ l, lightA x) ∧ w = w') w := by
  obtain ⟨A, c, rfl, _, hm⟩ := hv.slice
  refine ⟨S14.calls _ _ _ ?_⟩
  unfold S14
  refine LoopP.inv1 (fun iv w' => ∃ k : Nat, k ≤ l.length ∧ k ≤ 100 ∧ iv = .int .i64 k ∧ (∀ x ∈ l.take k, lightA x) ∧ w = w') (fun iv _ => l.length - (intOf iv).toNat) ⟨0, by omega, by omega, rfl, by simp, rfl⟩ ?_
  rintro _ _ ⟨k, hk, hk1, rfl, hall, rfl⟩ J hJ
  dsimp only [List.headD_cons, List.tail_cons]
  have last : ∃ b, Value.bool (decide ((l.length : Int) < 100)) = .bool b ∧ ((k = l.length ∨ 100 ≤ k) → b = true → l.length < 100 ∧ ∀ x ∈ l, lightA x) ∧ w = w := by
    refine ⟨_, rfl, fun hor hb => ?_, rfl⟩
    have hlt : l.length < 100 := by have := of_decide_eq_true hb; omega
    refine ⟨hlt, ?_⟩
    have : k = l.length := by omega
    rw [this, List.take_length] at hall
    exact hall
  obtain ⟨b, hb, hb2, _⟩ := last
  refine ln und39 ?_
  refine bi_lss_c (fun h => ?_) (fun h => ?_)
  · have hk' : k < l.length := by omega
    (repeat with_reducible first | refine nck ?_ | refine cdT ?_ | refine cdF ?_ | refine gdY ?_ | refine gdFT ?_ | refine gdTF ?_ | refine gdU ?_ | refine gaY ?_ | refine gaFT ?_ | refine gaTF ?_ | refine pickT ?_ | refine pickF ?_ | refine bi_lss_t (by omega) ?_ | refine bi_lss_f (by omega) ?_ | refine bi_add64 (by omega) ?_ | refine bi_sub64 (by omega) ?_ | refine bi_eql_t (by omega) ?_ | refine bi_eql_f (by omega) ?_ | refine bi_neq_t (by omega) ?_ | refine bi_neq_f (by omega) ?_ | refine bi_gtr_t (by omega) ?_ | refine bi_gtr_f (by omega) ?_ | refine bi_leq_t (by omega) ?_ | refine bi_leq_f (by omega) ?_ | refine bi_geq_t (by omega) ?_ | refine bi_geq_f (by omega) ?_ | refine bi_xt0 ?_ | refine bi_xt1 ?_ | refine bi_xt2 ?_ | refine bi_xt3 ?_ | refine bi_T ?_ | refine bi_F ?_ | refine bi_not ?_ | refine bi_and ?_ | refine bi_or ?_ | refine bi_xor ?_ | refine bi_shr (by omega) (by decide) ?_ | refine bi_shl (by omega) (by decide) ?_ | refine bi_quo64 (by omega) ?_ | refine bi_rem64 (by omega) ?_ | refine bi_mul64 (by omega) ?_ | refine bi_neg ?_ | refine bi_un_xor32 ?_ | refine bi_add ?_ | refine bi_sub ?_ | refine bi_mul ?_ | refine bi_quo (by decide) ?_ | refine bi_rem (by decide) ?_)
    refine bi_lss_c (fun h2 => ?_) (fun h2 => ?_)
    · obtain ⟨a, p, q, rfl, _, _, _, hcell, hp, hq⟩ := act_at hv k hk'
      have c2 : w.cell? (((a.add (k * 8)).add 3).add 2) = some p := hcell 2 _ rfl
      have c3 : w.cell? (((a.add (k * 8)).add 3).add 3) = some q := hcell 3 _ rfl
      (repeat with_reducible first | refine ixN und39 sz47 k hk' ?_ | refine fdA q3 (by decide) ?_ | refine fdA r2 (by decide) ?_ | refine ld one24 c2 ?_ | refine nck ?_ | refine cdT ?_ | refine cdF ?_ | refine gdY ?_ | refine gdFT ?_ | refine gdTF ?_ | refine gdU ?_ | refine gaY ?_ | refine gaFT ?_ | refine gaTF ?_ | refine pickT ?_ | refine pickF ?_ | refine bi_lss_t (by omega) ?_ | refine bi_lss_f (by omega) ?_ | refine bi_add64 (by omega) ?_ | refine bi_sub64 (by omega) ?_ | refine bi_eql_t (by omega) ?_ | refine bi_eql_f (by omega) ?_ | refine bi_neq_t (by omega) ?_ | refine bi_neq_f (by omega) ?_ | refine bi_gtr_t (by omega) ?_ | refine bi_gtr_f (by omega) ?_ | refine bi_leq_t (by omega) ?_ | refine bi_leq_f (by omega) ?_ | refine bi_geq_t (by omega) ?_ | refine bi_geq_f (by omega) ?_ | refine bi_xt0 ?_ | refine bi_xt1 ?_ | refine bi_xt2 ?_ | refine bi_xt3 ?_ | refine bi_T ?_ | refine bi_F ?_ | refine bi_not ?_ | refine bi_and ?_ | refine bi_or ?_ | refine bi_xor ?_ | refine bi_shr (by omega) (by decide) ?_ | refine bi_shl (by omega) (by decide) ?_ | refine bi_quo64 (by omega) ?_ | refine bi_rem64 (by omega) ?_ | refine bi_mul64 (by omega) ?_ | refine bi_neg ?_ | refine bi_un_xor32 ?_ | refine bi_add ?_ | refine bi_sub ?_ | refine bi_mul ?_ | refine bi_quo (by decide) ?_ | refine bi_rem (by decide) ?_)
      refine (light_spec _ _ w hp).mono ?_
      rintro _ _ ⟨b, rfl, hl, rfl⟩
      cases b with
      | false =>
        (repeat with_reducible first | refine nck ?_ | refine cdT ?_ | refine cdF ?_ | refine gdY ?_ | refine gdFT ?_ | refine gdTF ?_ | refine gdU ?_ | refine gaY ?_ | refine gaFT ?_ | refine gaTF ?_ | refine pickT ?_ | refine pickF ?_ | refine bi_lss_t (by omega) ?_ | refine bi_lss_f (by omega) ?_ | refine bi_add64 (by omega) ?_ | refine bi_sub64 (by omega) ?_ | refine bi_eql_t (by omega) ?_ | refine bi_eql_f (by omega) ?_ | refine bi_neq_t (by omega) ?_ | refine bi_neq_f (by omega) ?_ | refine bi_gtr_t (by omega) ?_ | refine bi_gtr_f (by omega) ?_ | refine bi_leq_t (by omega) ?_ | refine bi_leq_f (by omega) ?_ | refine bi_geq_t (by omega) ?_ | refine bi_geq_f (by omega) ?_ | refine bi_xt0 ?_ | refine bi_xt1 ?_ | refine bi_xt2 ?_ | refine bi_xt3 ?_ | refine bi_T ?_ | refine bi_F ?_ | refine bi_not ?_ | refine bi_and ?_ | refine bi_or ?_ | refine bi_xor ?_ | refine bi_shr (by omega) (by decide) ?_ | refine bi_shl (by omega) (by decide) ?_ | refine bi_quo64 (by omega) ?_ | refine bi_rem64 (by omega) ?_ | refine bi_mul64 (by omega) ?_ | refine bi_neg ?_ | refine bi_un_xor32 ?_ | refine bi_add ?_ | refine bi_sub ?_ | refine bi_mul ?_ | refine bi_quo (by decide) ?_ | refine bi_rem (by decide) ?_)
        exact ⟨false, rfl, (fun h => by cases h), rfl⟩
      | true =>
      obtain ⟨hl1, hl2⟩ := hl rfl
      obtain ⟨A', cA', rfl, _, hmA'⟩ := hq.slice
      (repeat with_reducible first | refine ixN und39 sz47 k hk' ?_ | refine fdA q3 (by decide) ?_ | refine fdA r3 (by decide) ?_ | refine ld one25 c3 ?_ | refine nck ?_ | refine cdT ?_ | refine cdF ?_ | refine gdY ?_ | refine gdFT ?_ | refine gdTF ?_ | refine gdU ?_ | refine gaY ?_ | refine gaFT ?_ | refine gaTF ?_ | refine pickT ?_ | refine pickF ?_ | refine bi_lss_t (by omega) ?_ | refine bi_lss_f (by omega) ?_ | refine bi_add64 (by omega) ?_ | refine bi_sub64 (by omega) ?_ | refine bi_eql_t (by omega) ?_ | refine bi_eql_f (by omega) ?_ | refine bi_neq_t (by omega) ?_ | refine bi_neq_f (by omega) ?_ | refine bi_gtr_t (by omega) ?_ | refine bi_gtr_f (by omega) ?_ | refine bi_leq_t (by omega) ?_ | refine bi_leq_f (by omega) ?_ | refine bi_geq_t (by omega) ?_ | refine bi_geq_f (by omega) ?_ | refine bi_xt0 ?_ | refine bi_xt1 ?_ | refine bi_xt2 ?_ | refine bi_xt3 ?_ | refine bi_T ?_ | refine bi_F ?_ | refine bi_not ?_ | refine bi_and ?_ | refine bi_or ?_ | refine bi_xor ?_ | refine bi_shr (by omega) (by decide) ?_ | refine bi_shl (by omega) (by decide) ?_ | refine bi_quo64 (by omega) ?_ | refine bi_rem64 (by omega) ?_ | refine bi_mul64 (by omega) ?_ | refine bi_neg ?_ | refine bi_un_xor32 ?_ | refine bi_add ?_ | refine bi_sub ?_ | refine bi_mul ?_ | refine bi_quo (by decide) ?_ | refine bi_rem (by decide) ?_)
      refine ln und25 ?_
      (repeat with_reducible first | refine nck ?_ | refine cdT ?_ | refine cdF ?_ | refine gdY ?_ | refine gdFT ?_ | refine gdTF ?_ | refine gdU ?_ | refine gaY ?_ | refine gaFT ?_ | refine gaTF ?_ | refine pickT ?_ | refine pickF ?_ | refine bi_lss_t (by omega) ?_ | refine bi_lss_f (by omega) ?_ | refine bi_add64 (by omega) ?_ | refine bi_sub64 (by omega) ?_ | refine bi_eql_t (by omega) ?_ | refine bi_eql_f (by omega) ?_ | refine bi_neq_t (by omega) ?_ | refine bi_neq_f (by omega) ?_ | refine bi_gtr_t (by omega) ?_ | refine bi_gtr_f (by omega) ?_ | refine bi_leq_t (by omega) ?_ | refine bi_leq_f (by omega) ?_ | refine bi_geq_t (by omega) ?_ | refine bi_geq_f (by omega) ?_ | refine bi_xt0 ?_ | refine bi_xt1 ?_ | refine bi_xt2 ?_ | refine bi_xt3 ?_ | refine bi_T ?_ | refine bi_F ?_ | refine bi_not ?_ | refine bi_and ?_ | refine bi_or ?_ | refine bi_xor ?_ | refine bi_shr (by omega) (by decide) ?_ | refine bi_shl (by omega) (by decide) ?_ | refine bi_quo64 (by omega) ?_ | refine bi_rem64 (by omega) ?_ | refine bi_mul64 (by omega) ?_ | refine bi_neg ?_ | refine bi_un_xor32 ?_ | refine bi_add ?_ | refine bi_sub ?_ | refine bi_mul ?_ | refine bi_quo (by decide) ?_ | refine bi_rem (by decide) ?_)
      refine bi_gtr_c (fun h10 => ?_) (fun h10 => ?_)
      · (repeat with_reducible first | refine nck ?_ | refine cdT ?_ | refine cdF ?_ | refine gdY ?_ | refine gdFT ?_ | refine gdTF ?_ | refine gdU ?_ | refine gaY ?_ | refine gaFT ?_ | refine gaTF ?_ | refine pickT ?_ | refine pickF ?_ | refine bi_lss_t (by omega) ?_ | refine bi_lss_f (by omega) ?_ | refine bi_add64 (by omega) ?_ | refine bi_sub64 (by omega) ?_ | refine bi_eql_t (by omega) ?_ | refine bi_eql_f (by omega) ?_ | refine bi_neq_t (by omega) ?_ | refine bi_neq_f (by omega) ?_ | refine bi_gtr_t (by omega) ?_ | refine bi_gtr_f (by omega) ?_ | refine bi_leq_t (by omega) ?_ | refine bi_leq_f (by omega) ?_ | refine bi_geq_t (by omega) ?_ | refine bi_geq_f (by omega) ?_ | refine bi_xt0 ?_ | refine bi_xt1 ?_ | refine bi_xt2 ?_ | refine bi_xt3 ?_ | refine bi_T ?_ | refine bi_F ?_ | refine bi_not ?_ | refine bi_and ?_ | refine bi_or ?_ | refine bi_xor ?_ | refine bi_shr (by omega) (by decide) ?_ | refine bi_shl (by omega) (by decide) ?_ | refine bi_quo64 (by omega) ?_ | refine bi_rem64 (by omega) ?_ | refine bi_mul64 (by omega) ?_ | refine bi_neg ?_ | refine bi_un_xor32 ?_ | refine bi_add ?_ | refine bi_sub ?_ | refine bi_mul ?_ | refine bi_quo (by decide) ?_ | refine bi_rem (by decide) ?_)
        exact ⟨false, rfl, (fun h => by cases h), rfl⟩
      (repeat with_reducible first | refine nck ?_ | refine cdT ?_ | refine cdF ?_ | refine gdY ?_ | refine gdFT ?_ | refine gdTF ?_ | refine gdU ?_ | refine gaY ?_ | refine gaFT ?_ | refine gaTF ?_ | refine pickT ?_ | refine pickF ?_ | refine bi_lss_t (by omega) ?_ | refine bi_lss_f (by omega) ?_ | refine bi_add64 (by omega) ?_ | refine bi_sub64 (by omega) ?_ | refine bi_eql_t (by omega) ?_ | refine bi_eql_f (by omega) ?_ | refine bi_neq_t (by omega) ?_ | refine bi_neq_f (by omega) ?_ | refine bi_gtr_t (by omega) ?_ | refine bi_gtr_f (by omega) ?_ | refine bi_leq_t (by omega) ?_ | refine bi_leq_f (by omega) ?_ | refine bi_geq_t (by omega) ?_ | refine bi_geq_f (by omega) ?_ | refine bi_xt0 ?_ | refine bi_xt1 ?_ | refine bi_xt2 ?_ | refine bi_xt3 ?_ | refine bi_T ?_ | refine bi_F ?_ | refine bi_not ?_ | refine bi_and ?_ | refine bi_or ?_ | refine bi_xor ?_ | refine bi_shr (by omega) (by decide) ?_ | refine bi_shl (by omega) (by decide) ?_ | refine bi_quo64 (by omega) ?_ | refine bi_rem64 (by omega) ?_ | refine bi_mul64 (by omega) ?_ | refine bi_neg ?_ | refine bi_un_xor32 ?_ | refine bi_add ?_ | refine bi_sub ?_ | refine bi_mul ?_ | refine bi_quo (by decide) ?_ | refine bi_rem (by decide) ?_)
      refine hJ _ _ ⟨k + 1, by omega, by omega, by simp, fun x hx => ?_, rfl⟩ (by simp [intOf]; omega)
      rw [List.take_succ_eq_append_getElem hk'] at hx
      rcases List.mem_append.1 hx with hx | hx
      · exact hall x hx
      · simp only [List.mem_cons, List.not_mem_nil, or_false] at hx
        subst hx
        exact ⟨hl1, hl2, by omega⟩
    · (repeat with_reducible first | refine nck ?_ | refine cdT ?_ | refine cdF ?_ | refine gdY ?_ | refine gdFT ?_ | refine gdTF ?_ | refine gdU ?_ | refine gaY ?_ | refine gaFT ?_ | refine gaTF ?_ | refine pickT ?_ | refine pickF ?_ | refine bi_lss_t (by omega) ?_ | refine bi_lss_f (by omega) ?_ | refine bi_add64 (by omega) ?_ | refine bi_sub64 (by omega) ?_ | refine bi_eql_t (by omega) ?_ | refine bi_eql_f (by omega) ?_ | refine bi_neq_t (by omega) ?_ | refine bi_neq_f (by omega) ?_ | refine bi_gtr_t (by omega) ?_ | refine bi_gtr_f (by omega) ?_ | refine bi_leq_t (by omega) ?_ | refine bi_leq_f (by omega) ?_ | refine bi_geq_t (by omega) ?_ | refine bi_geq_f (by omega) ?_ | refine bi_xt0 ?_ | refine bi_xt1 ?_ | refine bi_xt2 ?_ | refine bi_xt3 ?_ | refine bi_T ?_ | refine bi_F ?_ | refine bi_not ?_ | refine bi_and ?_ | refine bi_or ?_ | refine bi_xor ?_ | refine bi_shr (by omega) (by decide) ?_ | refine bi_shl (by omega) (by decide) ?_ | refine bi_quo64 (by omega) ?_ | refine bi_rem64 (by omega) ?_ | refine bi_mul64 (by omega) ?_ | refine bi_neg ?_ | refine bi_un_xor32 ?_ | refine bi_add ?_ | refine bi_sub ?_ | refine bi_mul ?_ | refine bi_quo (by decide) ?_ | refine bi_rem (by decide) ?_)
      refine ln und39 ?_
      refine bi_lss ?_
      exact ⟨b, hb, hb2 (.inr (by omega)), rfl⟩
  · (repeat with_reducible first | refine nck ?_ | refine cdT ?_ | refine cdF ?_ | refine gdY ?_ | refine gdFT ?_ | refine gdTF ?_ | refine gdU ?_ | refine gaY ?_ | refine gaFT ?_ | refine gaTF ?_ | refine pickT ?_ | refine pickF ?_ | refine bi_lss_t (by omega) ?_ | refine bi_lss_f (by omega) ?_ | refine bi_add64 (by omega) ?_ | refine bi_sub64 (by omega) ?_ | refine bi_eql_t (by omega) ?_ | refine bi_eql_f (by omega) ?_ | refine bi_neq_t (by omega) ?_ | refine bi_neq_f (by omega) ?_ | refine bi_gtr_t (by omega) ?_ | refine bi_gtr_f (by omega) ?_ | refine bi_leq_t (by omega) ?_ | refine bi_leq_f (by omega) ?_ | refine bi_geq_t (by omega) ?_ | refine bi_geq_f (by omega) ?_ | refine bi_xt0 ?_ | refine bi_xt1 ?_ | refine bi_xt2 ?_ | refine bi_xt3 ?_ | refine bi_T ?_ | refine bi_F ?_ | refine bi_not ?_ | refine bi_and ?_ | refine bi_or ?_ | refine bi_xor ?_ | refine bi_shr (by omega) (by decide) ?_ | refine bi_shl (by omega) (by decide) ?_ | refine bi_quo64 (by omega) ?_ | refine bi_rem64 (by omega) ?_ | refine bi_mul64 (by omega) ?_ | refine bi_neg ?_ | refine bi_un_xor32 ?_ | refine bi_add ?_ | refine bi_sub ?_ | refine bi_mul ?_ | refine bi_quo (by decide) ?_ | refine bi_rem (by decide) ?_)
    refine ln und39 ?_
    refine bi_lss ?_
    exact ⟨b, hb, hb2 (.inl (by omega)), rfl⟩
end Go.Proofs.Ytmnaggdhkggjhaa.E
/- OnceApart: what is remembered of one client hangs on nothing that is kept of others. -/
namespace Go.Proofs.Ytmnaggdhkggjhaa.E
open Go Go.RowKit
set_option linter.unusedSimpArgs false
set_option linter.unusedVariables false

theorem Vals.lt {w : World} {v : Value} {l : List ValT} (h : Vals w [v] l) (h0 : l ≠ []) {k : Nat} (hk : v.ownBlock = some k) : k < w.heap.size := by
  obtain ⟨A, c, rfl, _, _⟩ := h.slice
  obtain ⟨a, us, rfl, hus, hc, _⟩ := rRow.at h 0 (List.length_pos_iff.2 h0)
  cases us with
  | nil => simp at hus
  | cons u r =>
    have := hc 0 u rfl
    have e : ((a.add (0 * 3)).add 0).block = a.block := rfl
    have hlt := World.block_lt_of_cell? w _ this
    rw [e] at hlt
    cases hk
    exact hlt
/-- A call with the pointers that it bears. -/
abbrev KA := ActT × Value × Value
def kaF (e : KA) : List Value := [.int .i64 e.1.1, .int .i64 e.1.cl, .int .i64 e.1.no, .int .i64 e.1.rep.code, .bool e.1.rep.there, e.2.1, e.2.2, .int .i64 e.1.rep.id]
theorem kaF_len (e : KA) : (kaF e).length = 8 := rfl
theorem act_whole {w : World} {A : Option Addr} {n c : Nat} {l : List ActT} (h : Acts w [.slice A n c] l) (i : Nat) (hi : i < l.length) :
    ∃ a p q, A = some a ∧ (∀ j u, (kaF (l[i], p, q))[j]? = some u → w.cell? ((a.add (i * 8)).add j) = some u) ∧ Vals w [p] l[i].vs ∧ RowsR w [q] l[i].rows := by
  obtain ⟨a, us, rfl, hus, hcell, hrd⟩ := rRow.at h i hi
  obtain ⟨r, rfl, _, hr⟩ := rCons_I hrd
  obtain ⟨r, rfl, _, hr⟩ := rCons_I hr
  obtain ⟨r, rfl, _, hr⟩ := rCons_I hr
  obtain ⟨h1, h2⟩ := hr
  obtain ⟨p, q, he, hp, hq⟩ := reply_cells h1
  have h0 : r.drop 5 = [] := h2
  have hr5 : r = (l[i].rep.cells p q).toList := by rw [← List.take_append_drop 5 r, h0, List.append_nil, he]; rfl
  subst hr5
  exact ⟨a, p, q, rfl, hcell, hp, hq⟩
theorem agg47 : aggB Try.prog 47 = true := by kernel_rfl
theorem inf47 : (Try.prog.info? 47).map (fun i => (i.zero, i.size, i.bytes)) = some (some (.agg #[.int .i64 0, .int .i64 0, .int .i64 0, .int .i64 0, .bool false, .slice none 0 0, .slice none 0 0, .int .i64 0]), 8, 96) := by kernel_rfl
theorem one_ka (e : KA) (hp : e.2.1.oneCell' = true) (hq : e.2.2.oneCell' = true) : ∀ u ∈ kaF e, u.oneCell' = true := by
  intro u hu
  simp only [kaF, List.mem_cons, List.not_mem_nil, or_false] at hu
  rcases hu with rfl | rfl | rfl | rfl | rfl | rfl | rfl | rfl <;> first | rfl | assumption
/-- What came in lies below, where all is of no colour. -/
theorem Vals.hue {w : World} {v : Value} {l : List ValT} (h : Vals w [v] l) {c : Nat → Nat} (hc : ∀ k, k < w.heap.size → c k = 0) {hu : Nat} (hh : 0 < hu) : l = [] ∨ ∀ k, v.ownBlock = some k → c k % 1000 ≠ hu := by
  rcases Classical.em (l = []) with h0 | h0
  · exact .inl h0
  · exact .inr fun k hk => by rw [hc k (h.lt h0 hk)]; omega
theorem keepQ_same {V U : Int → VC} {id : Int} (h : V id = U id) (n : Int) (R : Rep) (vs : List ValT) (rows : Nat) : (keepQ V id n R vs rows).1 = (keepQ U id n R vs rows).1 ∧ (keepQ V id n R vs rows).2 id = (keepQ U id n R vs rows).2 id := by
  have e : lookQ V id n = lookQ U id n := by rw [lookQ, lookQ, h]
  unfold keepQ
  rw [e, h]
  split
  · exact ⟨rfl, h⟩
  · split
    · exact ⟨rfl, h⟩
    · split
      · exact ⟨rfl, h⟩
      · exact ⟨rfl, by show setV V id _ id = setV U id _ id; rw [setV_same, setV_same]⟩
theorem keepQ_other (V : Int → VC) {id i : Int} (h : i ≠ id) (n : Int) (R : Rep) (vs : List ValT) (rows : Nat) : (keepQ V id n R vs rows).2 i = V i := by
  unfold keepQ
  split
  · rfl
  · split
    · rfl
    · split
      · rfl
      · exact setV_other _ _ h
theorem lookQ_known {V : Int → VC} (hg : ∀ id, GoodV (V id)) (id : Int) (hid : 0 ≤ id ∧ id ≤ 1099511627776) {p : Int × Rm} (hp : p ∈ (V id).2) : lookQ V id p.1 = (0, some p.2) := by
  have g := hg id
  have hk := g.key p hp
  have ha := g.above p hp
  rw [lookQ, if_neg (by simp [badP, hid, hk]), lookV, if_neg (by omega), getK_of_mem g.rise.nodup hp]
/-- What is known is known of clients that may be. -/
def InP (V : Int → VC) : Prop := ∀ id, (V id).2 ≠ [] → 0 ≤ id ∧ id ≤ 1099511627776
theorem inP0 : InP V0 := fun id h => absurd rfl h
theorem InP.keep {V : Int → VC} (h : InP V) (id n : Int) (R : Rep) (vs : List ValT) (rows : Nat) : InP (keepQ V id n R vs rows).2 := by
  intro i hi
  unfold keepQ at hi
  split at hi
  · exact h i hi
  · rename_i harg
    split at hi
    · exact h i hi
    · rename_i h12
      split at hi
      · exact h i hi
      · rename_i h0
        by_cases he : i = id
        · subst he
          exact (lookQ_new (lookQ_bad (argP_bad (by simpa using harg))) h12 h0).1
        · exact h i (by rw [← setV_other V _ he]; exact hi)
theorem OnceApart_spec (v : Value) (l : List ActT) (cl : Int) (w : World) (hv : Acts w [v] l) :
    CallP Try.prog 5 #[v, .int .i64 cl] (fun r w' => r = .bool true ∧ Below w.heap.size w w') w := by
  obtain ⟨A, cA, rfl, _, hmA⟩ := hv.slice
  refine ⟨S5.calls _ _ _ _ ?_⟩
  unfold S5
  refine (awake_spec w).mono ?_
  rintro _ w1 ⟨rfl, hb1⟩
  (repeat with_reducible first | refine nck ?_ | refine cdT ?_ | refine cdF ?_ | refine gdY ?_ | refine gdFT ?_ | refine gdTF ?_ | refine gdU ?_ | refine gaY ?_ | refine gaFT ?_ | refine gaTF ?_ | refine pickT ?_ | refine pickF ?_ | refine bi_lss_t (by omega) ?_ | refine bi_lss_f (by omega) ?_ | refine bi_add64 (by omega) ?_ | refine bi_sub64 (by omega) ?_ | refine bi_eql_t (by omega) ?_ | refine bi_eql_f (by omega) ?_ | refine bi_neq_t (by omega) ?_ | refine bi_neq_f (by omega) ?_ | refine bi_gtr_t (by omega) ?_ | refine bi_gtr_f (by omega) ?_ | refine bi_leq_t (by omega) ?_ | refine bi_leq_f (by omega) ?_ | refine bi_geq_t (by omega) ?_ | refine bi_geq_f (by omega) ?_ | refine bi_xt0 ?_ | refine bi_xt1 ?_ | refine bi_xt2 ?_ | refine bi_xt3 ?_ | refine bi_T ?_ | refine bi_F ?_ | refine bi_not ?_ | refine bi_and ?_ | refine bi_or ?_ | refine bi_xor ?_ | refine bi_shr (by omega) (by decide) ?_ | refine bi_shl (by omega) (by decide) ?_ | refine bi_quo64 (by omega) ?_ | refine bi_rem64 (by omega) ?_ | refine bi_mul64 (by omega) ?_ | refine bi_neg ?_ | refine bi_un_xor32 ?_ | refine bi_add ?_ | refine bi_sub ?_ | refine bi_mul ?_ | refine bi_quo (by decide) ?_ | refine bi_rem (by decide) ?_)
  refine (lightActs_spec _ l w1 (keeps_Acts _ _ _ _ hb1 hv)).mono ?_
  rintro _ _ ⟨b, rfl, hlight, rfl⟩
  cases b with
  | false =>
    (repeat with_reducible first | refine nck ?_ | refine cdT ?_ | refine cdF ?_ | refine gdY ?_ | refine gdFT ?_ | refine gdTF ?_ | refine gdU ?_ | refine gaY ?_ | refine gaFT ?_ | refine gaTF ?_ | refine pickT ?_ | refine pickF ?_ | refine bi_lss_t (by omega) ?_ | refine bi_lss_f (by omega) ?_ | refine bi_add64 (by omega) ?_ | refine bi_sub64 (by omega) ?_ | refine bi_eql_t (by omega) ?_ | refine bi_eql_f (by omega) ?_ | refine bi_neq_t (by omega) ?_ | refine bi_neq_f (by omega) ?_ | refine bi_gtr_t (by omega) ?_ | refine bi_gtr_f (by omega) ?_ | refine bi_leq_t (by omega) ?_ | refine bi_leq_f (by omega) ?_ | refine bi_geq_t (by omega) ?_ | refine bi_geq_f (by omega) ?_ | refine bi_xt0 ?_ | refine bi_xt1 ?_ | refine bi_xt2 ?_ | refine bi_xt3 ?_ | refine bi_T ?_ | refine bi_F ?_ | refine bi_not ?_ | refine bi_and ?_ | refine bi_or ?_ | refine bi_xor ?_ | refine bi_shr (by omega) (by decide) ?_ | refine bi_shl (by omega) (by decide) ?_ | refine bi_quo64 (by omega) ?_ | refine bi_rem64 (by omega) ?_ | refine bi_mul64 (by omega) ?_ | refine bi_neg ?_ | refine bi_un_xor32 ?_ | refine bi_add ?_ | refine bi_sub ?_ | refine bi_mul ?_ | refine bi_quo (by decide) ?_ | refine bi_rem (by decide) ?_)
    exact ⟨rfl, hb1⟩
  | true =>
  obtain ⟨hl100, hla⟩ := hlight rfl
  (repeat with_reducible first | refine nck ?_ | refine cdT ?_ | refine cdF ?_ | refine gdY ?_ | refine gdFT ?_ | refine gdTF ?_ | refine gdU ?_ | refine gaY ?_ | refine gaFT ?_ | refine gaTF ?_ | refine pickT ?_ | refine pickF ?_ | refine bi_lss_t (by omega) ?_ | refine bi_lss_f (by omega) ?_ | refine bi_add64 (by omega) ?_ | refine bi_sub64 (by omega) ?_ | refine bi_eql_t (by omega) ?_ | refine bi_eql_f (by omega) ?_ | refine bi_neq_t (by omega) ?_ | refine bi_neq_f (by omega) ?_ | refine bi_gtr_t (by omega) ?_ | refine bi_gtr_f (by omega) ?_ | refine bi_leq_t (by omega) ?_ | refine bi_leq_f (by omega) ?_ | refine bi_geq_t (by omega) ?_ | refine bi_geq_f (by omega) ?_ | refine bi_xt0 ?_ | refine bi_xt1 ?_ | refine bi_xt2 ?_ | refine bi_xt3 ?_ | refine bi_T ?_ | refine bi_F ?_ | refine bi_not ?_ | refine bi_and ?_ | refine bi_or ?_ | refine bi_xor ?_ | refine bi_shr (by omega) (by decide) ?_ | refine bi_shl (by omega) (by decide) ?_ | refine bi_quo64 (by omega) ?_ | refine bi_rem64 (by omega) ?_ | refine bi_mul64 (by omega) ?_ | refine bi_neg ?_ | refine bi_un_xor32 ?_ | refine bi_add ?_ | refine bi_sub ?_ | refine bi_mul ?_ | refine bi_quo (by decide) ?_ | refine bi_rem (by decide) ?_)
  refine (New_V 1 (by decide) (fun _ => 0) w1).mono ?_
  rintro _ w2 ⟨ga, c2, rfl, hc2, h2, hb2⟩
  refine (New_V 2 (by decide) c2 w2).mono ?_
  rintro _ w3 ⟨gb, c3, rfl, hc3, h3, hb3⟩
  have h3a : TabV 1 c3 w3 ga V0 0 := (h2.re hc3).below hb3
  have hb3' := below_then (below_then hb1 hb2) hb3
  have hs1 := hb1.size
  have hs2 := hb2.size
  have hs3 := hb3.size
  have hz3 : ∀ k, k < w.heap.size → c3 k = 0 := fun k hk => by rw [hc3 k (by omega), hc2 k (by omega)]
  refine LoopP.inv1 (fun iv w' => ∃ (k : Nat) (c : Nat → Nat) (V U : Int → VC), k ≤ l.length ∧ iv = .int .i64 k ∧ TabV 1 c w' ga V k ∧ TabV 2 c w' gb U k ∧ V cl = U cl ∧ InP V ∧ (∀ j, j < w.heap.size → c j = 0) ∧ Below w.heap.size w w') (fun iv _ => l.length - (intOf iv).toNat)
    ⟨0, c3, V0, V0, by omega, rfl, h3a, h3, rfl, inP0, hz3, hb3'⟩ ?_
  rintro _ w4 ⟨k, c, V, U, hk, rfl, ha, hb, heq, hin, hz, hb4⟩ J hJ
  dsimp only [List.headD_cons, List.tail_cons]
  refine ln und39 ?_
  refine bi_lss_c (fun h => ?_) (fun h => ?_)
  · have hk' : k < l.length := by omega
    obtain ⟨a, p, q, rfl, _, hc1, hc2, hcell, hp, hq⟩ := act_at hv k hk'
    have hla' := hla l[k] (List.getElem_mem hk')
    have r1 : ∀ w', Below w.heap.size w w' → w'.cell? ((a.add (k * 8)).add 1) = some (.int .i64 l[k].cl) := fun w' h => by rw [h.cell (World.block_lt_of_cell? _ _ hc1), hc1]
    have r2 : ∀ w', Below w.heap.size w w' → w'.cell? ((a.add (k * 8)).add 2) = some (.int .i64 l[k].no) := fun w' h => by rw [h.cell (World.block_lt_of_cell? _ _ hc2), hc2]
    have r3 : ∀ w', Below w.heap.size w w' → ∀ j u, (l[k].rep.cells p q).toList[j]? = some u → w'.cell? (((a.add (k * 8)).add 3).add j) = some u := fun w' h j u hu => by rw [h.cell (World.block_lt_of_cell? _ _ (hcell j u hu)), hcell j u hu]
    have sz : (Try.prog.info? 27).map (·.size) = some (l[k].rep.cells p q).toList.length := by rw [sz27]; rfl
    have hdr : Below w4.heap.size w4 w4.drew := (Below.refl _ _).drew
    have hb4d := below_then hb4 hdr
    (repeat with_reducible first | refine nck ?_ | refine cdT ?_ | refine cdF ?_ | refine gdY ?_ | refine gdFT ?_ | refine gdTF ?_ | refine gdU ?_ | refine gaY ?_ | refine gaFT ?_ | refine gaTF ?_ | refine pickT ?_ | refine pickF ?_ | refine bi_lss_t (by omega) ?_ | refine bi_lss_f (by omega) ?_ | refine bi_add64 (by omega) ?_ | refine bi_sub64 (by omega) ?_ | refine bi_eql_t (by omega) ?_ | refine bi_eql_f (by omega) ?_ | refine bi_neq_t (by omega) ?_ | refine bi_neq_f (by omega) ?_ | refine bi_gtr_t (by omega) ?_ | refine bi_gtr_f (by omega) ?_ | refine bi_leq_t (by omega) ?_ | refine bi_leq_f (by omega) ?_ | refine bi_geq_t (by omega) ?_ | refine bi_geq_f (by omega) ?_ | refine bi_xt0 ?_ | refine bi_xt1 ?_ | refine bi_xt2 ?_ | refine bi_xt3 ?_ | refine bi_T ?_ | refine bi_F ?_ | refine bi_not ?_ | refine bi_and ?_ | refine bi_or ?_ | refine bi_xor ?_ | refine bi_shr (by omega) (by decide) ?_ | refine bi_shl (by omega) (by decide) ?_ | refine bi_quo64 (by omega) ?_ | refine bi_rem64 (by omega) ?_ | refine bi_mul64 (by omega) ?_ | refine bi_neg ?_ | refine bi_un_xor32 ?_ | refine bi_add ?_ | refine bi_sub ?_ | refine bi_mul ?_ | refine bi_quo (by decide) ?_ | refine bi_rem (by decide) ?_)
    refine draw (Below w.heap.size w) hb4d ?_
    refine yixA und39 sz47 k hk' ?_
    refine yfdA q1 (by decide) ?_
    refine yl1 one3 r1 ?_
    refine yixA und39 sz47 k hk' ?_
    refine yfdA q2 (by decide) ?_
    refine yl1 one3 r2 ?_
    refine yixA und39 sz47 k hk' ?_
    refine yfdA q3 (by decide) ?_
    refine yldR agg27 r3 sz ?_
    rw [Array.toArray_toList]
    refine act ?_
    have hpd := keeps_Vals _ _ _ _ hb4d hp
    have hqd := keeps_RowsR _ _ _ _ hb4d hq
    refine (Keep_V l[k].cl l[k].no l[k].rep p q l[k].vs l[k].rows (ha.below hdr) hpd (hp.hue hz (by decide)) hqd (by have := hla'.1; omega) (by omega)).mono ?_
    rintro _ w5 ⟨rfl, c5, hc5, h5, hT5⟩
    have hs4 := hb4d.size
    have hb45 : Below w.heap.size w4.drew w5 := hT5.below hs4 fun j hj => Dh0 (by decide) (hz j hj)
    have hb5 : Below w.heap.size w w5 := hb4d.trans hb45
    have hz5 : ∀ j, j < w.heap.size → c5 j = 0 := fun j hj => by rw [hc5 j (by omega), hz j hj]
    have hB5 : TabV 2 c5 w5 gb U k := (hb.below hdr).other hT5 (by decide) hc5
    refine ⟨Below w.heap.size w, hb5, fun _ h => h, ?_⟩
    have hdr5 : Below w5.heap.size w5 w5.drew := (Below.refl _ _).drew
    have hb5d := below_then hb5 hdr5
    refine draw (Below w.heap.size w) hb5d ?_
    refine yixA und39 sz47 k hk' ?_
    refine yfdA q1 (by decide) ?_
    refine yl1 one3 r1 ?_
    refine yi_eql ?_
    by_cases hcl : l[k].cl = cl
    · rw [decide_eq_true hcl]
      (repeat with_reducible first | refine nck ?_ | refine cdT ?_ | refine cdF ?_ | refine gdY ?_ | refine gdFT ?_ | refine gdTF ?_ | refine gdU ?_ | refine gaY ?_ | refine gaFT ?_ | refine gaTF ?_ | refine pickT ?_ | refine pickF ?_ | refine bi_lss_t (by omega) ?_ | refine bi_lss_f (by omega) ?_ | refine bi_add64 (by omega) ?_ | refine bi_sub64 (by omega) ?_ | refine bi_eql_t (by omega) ?_ | refine bi_eql_f (by omega) ?_ | refine bi_neq_t (by omega) ?_ | refine bi_neq_f (by omega) ?_ | refine bi_gtr_t (by omega) ?_ | refine bi_gtr_f (by omega) ?_ | refine bi_leq_t (by omega) ?_ | refine bi_leq_f (by omega) ?_ | refine bi_geq_t (by omega) ?_ | refine bi_geq_f (by omega) ?_ | refine bi_xt0 ?_ | refine bi_xt1 ?_ | refine bi_xt2 ?_ | refine bi_xt3 ?_ | refine bi_T ?_ | refine bi_F ?_ | refine bi_not ?_ | refine bi_and ?_ | refine bi_or ?_ | refine bi_xor ?_ | refine bi_shr (by omega) (by decide) ?_ | refine bi_shl (by omega) (by decide) ?_ | refine bi_quo64 (by omega) ?_ | refine bi_rem64 (by omega) ?_ | refine bi_mul64 (by omega) ?_ | refine bi_neg ?_ | refine bi_un_xor32 ?_ | refine bi_add ?_ | refine bi_sub ?_ | refine bi_mul ?_ | refine bi_quo (by decide) ?_ | refine bi_rem (by decide) ?_)
      refine yixA und39 sz47 k hk' ?_
      (repeat with_reducible first | refine nck ?_ | refine cdT ?_ | refine cdF ?_ | refine gdY ?_ | refine gdFT ?_ | refine gdTF ?_ | refine gdU ?_ | refine gaY ?_ | refine gaFT ?_ | refine gaTF ?_ | refine pickT ?_ | refine pickF ?_ | refine bi_lss_t (by omega) ?_ | refine bi_lss_f (by omega) ?_ | refine bi_add64 (by omega) ?_ | refine bi_sub64 (by omega) ?_ | refine bi_eql_t (by omega) ?_ | refine bi_eql_f (by omega) ?_ | refine bi_neq_t (by omega) ?_ | refine bi_neq_f (by omega) ?_ | refine bi_gtr_t (by omega) ?_ | refine bi_gtr_f (by omega) ?_ | refine bi_leq_t (by omega) ?_ | refine bi_leq_f (by omega) ?_ | refine bi_geq_t (by omega) ?_ | refine bi_geq_f (by omega) ?_ | refine bi_xt0 ?_ | refine bi_xt1 ?_ | refine bi_xt2 ?_ | refine bi_xt3 ?_ | refine bi_T ?_ | refine bi_F ?_ | refine bi_not ?_ | refine bi_and ?_ | refine bi_or ?_ | refine bi_xor ?_ | refine bi_shr (by omega) (by decide) ?_ | refine bi_shl (by omega) (by decide) ?_ | refine bi_quo64 (by omega) ?_ | refine bi_rem64 (by omega) ?_ | refine bi_mul64 (by omega) ?_ | refine bi_neg ?_ | refine bi_un_xor32 ?_ | refine bi_add ?_ | refine bi_sub ?_ | refine bi_mul ?_ | refine bi_quo (by decide) ?_ | refine bi_rem (by decide) ?_)
      refine yfdA q1 (by decide) ?_
      (repeat with_reducible first | refine nck ?_ | refine cdT ?_ | refine cdF ?_ | refine gdY ?_ | refine gdFT ?_ | refine gdTF ?_ | refine gdU ?_ | refine gaY ?_ | refine gaFT ?_ | refine gaTF ?_ | refine pickT ?_ | refine pickF ?_ | refine bi_lss_t (by omega) ?_ | refine bi_lss_f (by omega) ?_ | refine bi_add64 (by omega) ?_ | refine bi_sub64 (by omega) ?_ | refine bi_eql_t (by omega) ?_ | refine bi_eql_f (by omega) ?_ | refine bi_neq_t (by omega) ?_ | refine bi_neq_f (by omega) ?_ | refine bi_gtr_t (by omega) ?_ | refine bi_gtr_f (by omega) ?_ | refine bi_leq_t (by omega) ?_ | refine bi_leq_f (by omega) ?_ | refine bi_geq_t (by omega) ?_ | refine bi_geq_f (by omega) ?_ | refine bi_xt0 ?_ | refine bi_xt1 ?_ | refine bi_xt2 ?_ | refine bi_xt3 ?_ | refine bi_T ?_ | refine bi_F ?_ | refine bi_not ?_ | refine bi_and ?_ | refine bi_or ?_ | refine bi_xor ?_ | refine bi_shr (by omega) (by decide) ?_ | refine bi_shl (by omega) (by decide) ?_ | refine bi_quo64 (by omega) ?_ | refine bi_rem64 (by omega) ?_ | refine bi_mul64 (by omega) ?_ | refine bi_neg ?_ | refine bi_un_xor32 ?_ | refine bi_add ?_ | refine bi_sub ?_ | refine bi_mul ?_ | refine bi_quo (by decide) ?_ | refine bi_rem (by decide) ?_)
      refine yl1 one3 r1 ?_
      (repeat with_reducible first | refine nck ?_ | refine cdT ?_ | refine cdF ?_ | refine gdY ?_ | refine gdFT ?_ | refine gdTF ?_ | refine gdU ?_ | refine gaY ?_ | refine gaFT ?_ | refine gaTF ?_ | refine pickT ?_ | refine pickF ?_ | refine bi_lss_t (by omega) ?_ | refine bi_lss_f (by omega) ?_ | refine bi_add64 (by omega) ?_ | refine bi_sub64 (by omega) ?_ | refine bi_eql_t (by omega) ?_ | refine bi_eql_f (by omega) ?_ | refine bi_neq_t (by omega) ?_ | refine bi_neq_f (by omega) ?_ | refine bi_gtr_t (by omega) ?_ | refine bi_gtr_f (by omega) ?_ | refine bi_leq_t (by omega) ?_ | refine bi_leq_f (by omega) ?_ | refine bi_geq_t (by omega) ?_ | refine bi_geq_f (by omega) ?_ | refine bi_xt0 ?_ | refine bi_xt1 ?_ | refine bi_xt2 ?_ | refine bi_xt3 ?_ | refine bi_T ?_ | refine bi_F ?_ | refine bi_not ?_ | refine bi_and ?_ | refine bi_or ?_ | refine bi_xor ?_ | refine bi_shr (by omega) (by decide) ?_ | refine bi_shl (by omega) (by decide) ?_ | refine bi_quo64 (by omega) ?_ | refine bi_rem64 (by omega) ?_ | refine bi_mul64 (by omega) ?_ | refine bi_neg ?_ | refine bi_un_xor32 ?_ | refine bi_add ?_ | refine bi_sub ?_ | refine bi_mul ?_ | refine bi_quo (by decide) ?_ | refine bi_rem (by decide) ?_)
      refine yixA und39 sz47 k hk' ?_
      (repeat with_reducible first | refine nck ?_ | refine cdT ?_ | refine cdF ?_ | refine gdY ?_ | refine gdFT ?_ | refine gdTF ?_ | refine gdU ?_ | refine gaY ?_ | refine gaFT ?_ | refine gaTF ?_ | refine pickT ?_ | refine pickF ?_ | refine bi_lss_t (by omega) ?_ | refine bi_lss_f (by omega) ?_ | refine bi_add64 (by omega) ?_ | refine bi_sub64 (by omega) ?_ | refine bi_eql_t (by omega) ?_ | refine bi_eql_f (by omega) ?_ | refine bi_neq_t (by omega) ?_ | refine bi_neq_f (by omega) ?_ | refine bi_gtr_t (by omega) ?_ | refine bi_gtr_f (by omega) ?_ | refine bi_leq_t (by omega) ?_ | refine bi_leq_f (by omega) ?_ | refine bi_geq_t (by omega) ?_ | refine bi_geq_f (by omega) ?_ | refine bi_xt0 ?_ | refine bi_xt1 ?_ | refine bi_xt2 ?_ | refine bi_xt3 ?_ | refine bi_T ?_ | refine bi_F ?_ | refine bi_not ?_ | refine bi_and ?_ | refine bi_or ?_ | refine bi_xor ?_ | refine bi_shr (by omega) (by decide) ?_ | refine bi_shl (by omega) (by decide) ?_ | refine bi_quo64 (by omega) ?_ | refine bi_rem64 (by omega) ?_ | refine bi_mul64 (by omega) ?_ | refine bi_neg ?_ | refine bi_un_xor32 ?_ | refine bi_add ?_ | refine bi_sub ?_ | refine bi_mul ?_ | refine bi_quo (by decide) ?_ | refine bi_rem (by decide) ?_)
      refine yfdA q2 (by decide) ?_
      (repeat with_reducible first | refine nck ?_ | refine cdT ?_ | refine cdF ?_ | refine gdY ?_ | refine gdFT ?_ | refine gdTF ?_ | refine gdU ?_ | refine gaY ?_ | refine gaFT ?_ | refine gaTF ?_ | refine pickT ?_ | refine pickF ?_ | refine bi_lss_t (by omega) ?_ | refine bi_lss_f (by omega) ?_ | refine bi_add64 (by omega) ?_ | refine bi_sub64 (by omega) ?_ | refine bi_eql_t (by omega) ?_ | refine bi_eql_f (by omega) ?_ | refine bi_neq_t (by omega) ?_ | refine bi_neq_f (by omega) ?_ | refine bi_gtr_t (by omega) ?_ | refine bi_gtr_f (by omega) ?_ | refine bi_leq_t (by omega) ?_ | refine bi_leq_f (by omega) ?_ | refine bi_geq_t (by omega) ?_ | refine bi_geq_f (by omega) ?_ | refine bi_xt0 ?_ | refine bi_xt1 ?_ | refine bi_xt2 ?_ | refine bi_xt3 ?_ | refine bi_T ?_ | refine bi_F ?_ | refine bi_not ?_ | refine bi_and ?_ | refine bi_or ?_ | refine bi_xor ?_ | refine bi_shr (by omega) (by decide) ?_ | refine bi_shl (by omega) (by decide) ?_ | refine bi_quo64 (by omega) ?_ | refine bi_rem64 (by omega) ?_ | refine bi_mul64 (by omega) ?_ | refine bi_neg ?_ | refine bi_un_xor32 ?_ | refine bi_add ?_ | refine bi_sub ?_ | refine bi_mul ?_ | refine bi_quo (by decide) ?_ | refine bi_rem (by decide) ?_)
      refine yl1 one3 r2 ?_
      (repeat with_reducible first | refine nck ?_ | refine cdT ?_ | refine cdF ?_ | refine gdY ?_ | refine gdFT ?_ | refine gdTF ?_ | refine gdU ?_ | refine gaY ?_ | refine gaFT ?_ | refine gaTF ?_ | refine pickT ?_ | refine pickF ?_ | refine bi_lss_t (by omega) ?_ | refine bi_lss_f (by omega) ?_ | refine bi_add64 (by omega) ?_ | refine bi_sub64 (by omega) ?_ | refine bi_eql_t (by omega) ?_ | refine bi_eql_f (by omega) ?_ | refine bi_neq_t (by omega) ?_ | refine bi_neq_f (by omega) ?_ | refine bi_gtr_t (by omega) ?_ | refine bi_gtr_f (by omega) ?_ | refine bi_leq_t (by omega) ?_ | refine bi_leq_f (by omega) ?_ | refine bi_geq_t (by omega) ?_ | refine bi_geq_f (by omega) ?_ | refine bi_xt0 ?_ | refine bi_xt1 ?_ | refine bi_xt2 ?_ | refine bi_xt3 ?_ | refine bi_T ?_ | refine bi_F ?_ | refine bi_not ?_ | refine bi_and ?_ | refine bi_or ?_ | refine bi_xor ?_ | refine bi_shr (by omega) (by decide) ?_ | refine bi_shl (by omega) (by decide) ?_ | refine bi_quo64 (by omega) ?_ | refine bi_rem64 (by omega) ?_ | refine bi_mul64 (by omega) ?_ | refine bi_neg ?_ | refine bi_un_xor32 ?_ | refine bi_add ?_ | refine bi_sub ?_ | refine bi_mul ?_ | refine bi_quo (by decide) ?_ | refine bi_rem (by decide) ?_)
      refine yixA und39 sz47 k hk' ?_
      (repeat with_reducible first | refine nck ?_ | refine cdT ?_ | refine cdF ?_ | refine gdY ?_ | refine gdFT ?_ | refine gdTF ?_ | refine gdU ?_ | refine gaY ?_ | refine gaFT ?_ | refine gaTF ?_ | refine pickT ?_ | refine pickF ?_ | refine bi_lss_t (by omega) ?_ | refine bi_lss_f (by omega) ?_ | refine bi_add64 (by omega) ?_ | refine bi_sub64 (by omega) ?_ | refine bi_eql_t (by omega) ?_ | refine bi_eql_f (by omega) ?_ | refine bi_neq_t (by omega) ?_ | refine bi_neq_f (by omega) ?_ | refine bi_gtr_t (by omega) ?_ | refine bi_gtr_f (by omega) ?_ | refine bi_leq_t (by omega) ?_ | refine bi_leq_f (by omega) ?_ | refine bi_geq_t (by omega) ?_ | refine bi_geq_f (by omega) ?_ | refine bi_xt0 ?_ | refine bi_xt1 ?_ | refine bi_xt2 ?_ | refine bi_xt3 ?_ | refine bi_T ?_ | refine bi_F ?_ | refine bi_not ?_ | refine bi_and ?_ | refine bi_or ?_ | refine bi_xor ?_ | refine bi_shr (by omega) (by decide) ?_ | refine bi_shl (by omega) (by decide) ?_ | refine bi_quo64 (by omega) ?_ | refine bi_rem64 (by omega) ?_ | refine bi_mul64 (by omega) ?_ | refine bi_neg ?_ | refine bi_un_xor32 ?_ | refine bi_add ?_ | refine bi_sub ?_ | refine bi_mul ?_ | refine bi_quo (by decide) ?_ | refine bi_rem (by decide) ?_)
      refine yfdA q3 (by decide) ?_
      (repeat with_reducible first | refine nck ?_ | refine cdT ?_ | refine cdF ?_ | refine gdY ?_ | refine gdFT ?_ | refine gdTF ?_ | refine gdU ?_ | refine gaY ?_ | refine gaFT ?_ | refine gaTF ?_ | refine pickT ?_ | refine pickF ?_ | refine bi_lss_t (by omega) ?_ | refine bi_lss_f (by omega) ?_ | refine bi_add64 (by omega) ?_ | refine bi_sub64 (by omega) ?_ | refine bi_eql_t (by omega) ?_ | refine bi_eql_f (by omega) ?_ | refine bi_neq_t (by omega) ?_ | refine bi_neq_f (by omega) ?_ | refine bi_gtr_t (by omega) ?_ | refine bi_gtr_f (by omega) ?_ | refine bi_leq_t (by omega) ?_ | refine bi_leq_f (by omega) ?_ | refine bi_geq_t (by omega) ?_ | refine bi_geq_f (by omega) ?_ | refine bi_xt0 ?_ | refine bi_xt1 ?_ | refine bi_xt2 ?_ | refine bi_xt3 ?_ | refine bi_T ?_ | refine bi_F ?_ | refine bi_not ?_ | refine bi_and ?_ | refine bi_or ?_ | refine bi_xor ?_ | refine bi_shr (by omega) (by decide) ?_ | refine bi_shl (by omega) (by decide) ?_ | refine bi_quo64 (by omega) ?_ | refine bi_rem64 (by omega) ?_ | refine bi_mul64 (by omega) ?_ | refine bi_neg ?_ | refine bi_un_xor32 ?_ | refine bi_add ?_ | refine bi_sub ?_ | refine bi_mul ?_ | refine bi_quo (by decide) ?_ | refine bi_rem (by decide) ?_)
      refine yldR agg27 r3 sz ?_
      rw [Array.toArray_toList]
      (repeat with_reducible first | refine nck ?_ | refine cdT ?_ | refine cdF ?_ | refine gdY ?_ | refine gdFT ?_ | refine gdTF ?_ | refine gdU ?_ | refine gaY ?_ | refine gaFT ?_ | refine gaTF ?_ | refine pickT ?_ | refine pickF ?_ | refine bi_lss_t (by omega) ?_ | refine bi_lss_f (by omega) ?_ | refine bi_add64 (by omega) ?_ | refine bi_sub64 (by omega) ?_ | refine bi_eql_t (by omega) ?_ | refine bi_eql_f (by omega) ?_ | refine bi_neq_t (by omega) ?_ | refine bi_neq_f (by omega) ?_ | refine bi_gtr_t (by omega) ?_ | refine bi_gtr_f (by omega) ?_ | refine bi_leq_t (by omega) ?_ | refine bi_leq_f (by omega) ?_ | refine bi_geq_t (by omega) ?_ | refine bi_geq_f (by omega) ?_ | refine bi_xt0 ?_ | refine bi_xt1 ?_ | refine bi_xt2 ?_ | refine bi_xt3 ?_ | refine bi_T ?_ | refine bi_F ?_ | refine bi_not ?_ | refine bi_and ?_ | refine bi_or ?_ | refine bi_xor ?_ | refine bi_shr (by omega) (by decide) ?_ | refine bi_shl (by omega) (by decide) ?_ | refine bi_quo64 (by omega) ?_ | refine bi_rem64 (by omega) ?_ | refine bi_mul64 (by omega) ?_ | refine bi_neg ?_ | refine bi_un_xor32 ?_ | refine bi_add ?_ | refine bi_sub ?_ | refine bi_mul ?_ | refine bi_quo (by decide) ?_ | refine bi_rem (by decide) ?_)
      refine act ?_
      refine (Keep_V l[k].cl l[k].no l[k].rep p q l[k].vs l[k].rows (hB5.below hdr5) (keeps_Vals _ _ _ _ hb5d hp) (hp.hue hz5 (by decide)) (keeps_RowsR _ _ _ _ hb5d hq) (by have := hla'.1; omega) (by omega)).mono ?_
      rintro _ w6 ⟨rfl, c6, hc6, h6, hT6⟩
      have hs5 := hb5d.size
      have hb56 : Below w.heap.size w5.drew w6 := hT6.below hs5 fun j hj => Dh0 (by decide) (hz5 j hj)
      have hb6 : Below w.heap.size w w6 := hb5d.trans hb56
      refine ⟨Below w.heap.size w, hb6, fun _ h => h, ?_⟩
      obtain ⟨e1, e2⟩ := keepQ_same (V := V) (U := U) (id := l[k].cl) (by rw [hcl]; exact heq) l[k].no l[k].rep l[k].vs l[k].rows.length
      rw [e1]
      (repeat with_reducible first | refine nck ?_ | refine cdT ?_ | refine cdF ?_ | refine gdY ?_ | refine gdFT ?_ | refine gdTF ?_ | refine gdU ?_ | refine gaY ?_ | refine gaFT ?_ | refine gaTF ?_ | refine pickT ?_ | refine pickF ?_ | refine bi_lss_t (by omega) ?_ | refine bi_lss_f (by omega) ?_ | refine bi_add64 (by omega) ?_ | refine bi_sub64 (by omega) ?_ | refine bi_eql_t (by omega) ?_ | refine bi_eql_f (by omega) ?_ | refine bi_neq_t (by omega) ?_ | refine bi_neq_f (by omega) ?_ | refine bi_gtr_t (by omega) ?_ | refine bi_gtr_f (by omega) ?_ | refine bi_leq_t (by omega) ?_ | refine bi_leq_f (by omega) ?_ | refine bi_geq_t (by omega) ?_ | refine bi_geq_f (by omega) ?_ | refine bi_xt0 ?_ | refine bi_xt1 ?_ | refine bi_xt2 ?_ | refine bi_xt3 ?_ | refine bi_T ?_ | refine bi_F ?_ | refine bi_not ?_ | refine bi_and ?_ | refine bi_or ?_ | refine bi_xor ?_ | refine bi_shr (by omega) (by decide) ?_ | refine bi_shl (by omega) (by decide) ?_ | refine bi_quo64 (by omega) ?_ | refine bi_rem64 (by omega) ?_ | refine bi_mul64 (by omega) ?_ | refine bi_neg ?_ | refine bi_un_xor32 ?_ | refine bi_add ?_ | refine bi_sub ?_ | refine bi_mul ?_ | refine bi_quo (by decide) ?_ | refine bi_rem (by decide) ?_)
      refine yi_neq ?_
      rw [decide_eq_false (by simp)]
      (repeat with_reducible first | refine nck ?_ | refine cdT ?_ | refine cdF ?_ | refine gdY ?_ | refine gdFT ?_ | refine gdTF ?_ | refine gdU ?_ | refine gaY ?_ | refine gaFT ?_ | refine gaTF ?_ | refine pickT ?_ | refine pickF ?_ | refine bi_lss_t (by omega) ?_ | refine bi_lss_f (by omega) ?_ | refine bi_add64 (by omega) ?_ | refine bi_sub64 (by omega) ?_ | refine bi_eql_t (by omega) ?_ | refine bi_eql_f (by omega) ?_ | refine bi_neq_t (by omega) ?_ | refine bi_neq_f (by omega) ?_ | refine bi_gtr_t (by omega) ?_ | refine bi_gtr_f (by omega) ?_ | refine bi_leq_t (by omega) ?_ | refine bi_leq_f (by omega) ?_ | refine bi_geq_t (by omega) ?_ | refine bi_geq_f (by omega) ?_ | refine bi_xt0 ?_ | refine bi_xt1 ?_ | refine bi_xt2 ?_ | refine bi_xt3 ?_ | refine bi_T ?_ | refine bi_F ?_ | refine bi_not ?_ | refine bi_and ?_ | refine bi_or ?_ | refine bi_xor ?_ | refine bi_shr (by omega) (by decide) ?_ | refine bi_shl (by omega) (by decide) ?_ | refine bi_quo64 (by omega) ?_ | refine bi_rem64 (by omega) ?_ | refine bi_mul64 (by omega) ?_ | refine bi_neg ?_ | refine bi_un_xor32 ?_ | refine bi_add ?_ | refine bi_sub ?_ | refine bi_mul ?_ | refine bi_quo (by decide) ?_ | refine bi_rem (by decide) ?_)
      refine hJ _ _ ⟨k + 1, c6, _, _, by omega, by simp, (h5.below hdr5).other hT6 (by decide) hc6, h6, ?_, hin.keep _ _ _ _ _, fun j hj => by rw [hc6 j (by omega), hz5 j hj], hb6⟩ (by simp [intOf]; omega)
      rw [hcl] at e2
      rw [hcl]; exact e2
    · rw [decide_eq_false hcl]
      (repeat with_reducible first | refine nck ?_ | refine cdT ?_ | refine cdF ?_ | refine gdY ?_ | refine gdFT ?_ | refine gdTF ?_ | refine gdU ?_ | refine gaY ?_ | refine gaFT ?_ | refine gaTF ?_ | refine pickT ?_ | refine pickF ?_ | refine bi_lss_t (by omega) ?_ | refine bi_lss_f (by omega) ?_ | refine bi_add64 (by omega) ?_ | refine bi_sub64 (by omega) ?_ | refine bi_eql_t (by omega) ?_ | refine bi_eql_f (by omega) ?_ | refine bi_neq_t (by omega) ?_ | refine bi_neq_f (by omega) ?_ | refine bi_gtr_t (by omega) ?_ | refine bi_gtr_f (by omega) ?_ | refine bi_leq_t (by omega) ?_ | refine bi_leq_f (by omega) ?_ | refine bi_geq_t (by omega) ?_ | refine bi_geq_f (by omega) ?_ | refine bi_xt0 ?_ | refine bi_xt1 ?_ | refine bi_xt2 ?_ | refine bi_xt3 ?_ | refine bi_T ?_ | refine bi_F ?_ | refine bi_not ?_ | refine bi_and ?_ | refine bi_or ?_ | refine bi_xor ?_ | refine bi_shr (by omega) (by decide) ?_ | refine bi_shl (by omega) (by decide) ?_ | refine bi_quo64 (by omega) ?_ | refine bi_rem64 (by omega) ?_ | refine bi_mul64 (by omega) ?_ | refine bi_neg ?_ | refine bi_un_xor32 ?_ | refine bi_add ?_ | refine bi_sub ?_ | refine bi_mul ?_ | refine bi_quo (by decide) ?_ | refine bi_rem (by decide) ?_)
      refine hJ _ _ ⟨k + 1, c5, _, _, by omega, by simp, h5.below hdr5, (hB5.mono (by omega)).below hdr5, ?_, hin.keep _ _ _ _ _, hz5, hb5d⟩ (by simp [intOf]; omega)
      rw [keepQ_other V (fun e => hcl e.symm)]; exact heq
  · (repeat with_reducible first | refine nck ?_ | refine cdT ?_ | refine cdF ?_ | refine gdY ?_ | refine gdFT ?_ | refine gdTF ?_ | refine gdU ?_ | refine gaY ?_ | refine gaFT ?_ | refine gaTF ?_ | refine pickT ?_ | refine pickF ?_ | refine bi_lss_t (by omega) ?_ | refine bi_lss_f (by omega) ?_ | refine bi_add64 (by omega) ?_ | refine bi_sub64 (by omega) ?_ | refine bi_eql_t (by omega) ?_ | refine bi_eql_f (by omega) ?_ | refine bi_neq_t (by omega) ?_ | refine bi_neq_f (by omega) ?_ | refine bi_gtr_t (by omega) ?_ | refine bi_gtr_f (by omega) ?_ | refine bi_leq_t (by omega) ?_ | refine bi_leq_f (by omega) ?_ | refine bi_geq_t (by omega) ?_ | refine bi_geq_f (by omega) ?_ | refine bi_xt0 ?_ | refine bi_xt1 ?_ | refine bi_xt2 ?_ | refine bi_xt3 ?_ | refine bi_T ?_ | refine bi_F ?_ | refine bi_not ?_ | refine bi_and ?_ | refine bi_or ?_ | refine bi_xor ?_ | refine bi_shr (by omega) (by decide) ?_ | refine bi_shl (by omega) (by decide) ?_ | refine bi_quo64 (by omega) ?_ | refine bi_rem64 (by omega) ?_ | refine bi_mul64 (by omega) ?_ | refine bi_neg ?_ | refine bi_un_xor32 ?_ | refine bi_add ?_ | refine bi_sub ?_ | refine bi_mul ?_ | refine bi_quo (by decide) ?_ | refine bi_rem (by decide) ?_)
    refine (Floor_V cl ha).mono ?_
    rintro _ _ ⟨rfl, rfl⟩
    refine (Floor_V cl hb).mono ?_
    rintro _ _ ⟨rfl, rfl⟩
    rw [heq]
    refine bi_neq ?_
    rw [decide_eq_false (by simp)]
    (repeat with_reducible first | refine nck ?_ | refine cdT ?_ | refine cdF ?_ | refine gdY ?_ | refine gdFT ?_ | refine gdTF ?_ | refine gdU ?_ | refine gaY ?_ | refine gaFT ?_ | refine gaTF ?_ | refine pickT ?_ | refine pickF ?_ | refine bi_lss_t (by omega) ?_ | refine bi_lss_f (by omega) ?_ | refine bi_add64 (by omega) ?_ | refine bi_sub64 (by omega) ?_ | refine bi_eql_t (by omega) ?_ | refine bi_eql_f (by omega) ?_ | refine bi_neq_t (by omega) ?_ | refine bi_neq_f (by omega) ?_ | refine bi_gtr_t (by omega) ?_ | refine bi_gtr_f (by omega) ?_ | refine bi_leq_t (by omega) ?_ | refine bi_leq_f (by omega) ?_ | refine bi_geq_t (by omega) ?_ | refine bi_geq_f (by omega) ?_ | refine bi_xt0 ?_ | refine bi_xt1 ?_ | refine bi_xt2 ?_ | refine bi_xt3 ?_ | refine bi_T ?_ | refine bi_F ?_ | refine bi_not ?_ | refine bi_and ?_ | refine bi_or ?_ | refine bi_xor ?_ | refine bi_shr (by omega) (by decide) ?_ | refine bi_shl (by omega) (by decide) ?_ | refine bi_quo64 (by omega) ?_ | refine bi_rem64 (by omega) ?_ | refine bi_mul64 (by omega) ?_ | refine bi_neg ?_ | refine bi_un_xor32 ?_ | refine bi_add ?_ | refine bi_sub ?_ | refine bi_mul ?_ | refine bi_quo (by decide) ?_ | refine bi_rem (by decide) ?_)
    refine (Known_V cl ha).mono ?_
    rintro r5 w5 ⟨ho5, hf5, hb5⟩
    (repeat with_reducible first | refine nck ?_ | refine cdT ?_ | refine cdF ?_ | refine gdY ?_ | refine gdFT ?_ | refine gdTF ?_ | refine gdU ?_ | refine gaY ?_ | refine gaFT ?_ | refine gaTF ?_ | refine pickT ?_ | refine pickF ?_ | refine bi_lss_t (by omega) ?_ | refine bi_lss_f (by omega) ?_ | refine bi_add64 (by omega) ?_ | refine bi_sub64 (by omega) ?_ | refine bi_eql_t (by omega) ?_ | refine bi_eql_f (by omega) ?_ | refine bi_neq_t (by omega) ?_ | refine bi_neq_f (by omega) ?_ | refine bi_gtr_t (by omega) ?_ | refine bi_gtr_f (by omega) ?_ | refine bi_leq_t (by omega) ?_ | refine bi_leq_f (by omega) ?_ | refine bi_geq_t (by omega) ?_ | refine bi_geq_f (by omega) ?_ | refine bi_xt0 ?_ | refine bi_xt1 ?_ | refine bi_xt2 ?_ | refine bi_xt3 ?_ | refine bi_T ?_ | refine bi_F ?_ | refine bi_not ?_ | refine bi_and ?_ | refine bi_or ?_ | refine bi_xor ?_ | refine bi_shr (by omega) (by decide) ?_ | refine bi_shl (by omega) (by decide) ?_ | refine bi_quo64 (by omega) ?_ | refine bi_rem64 (by omega) ?_ | refine bi_mul64 (by omega) ?_ | refine bi_neg ?_ | refine bi_un_xor32 ?_ | refine bi_add ?_ | refine bi_sub ?_ | refine bi_mul ?_ | refine bi_quo (by decide) ?_ | refine bi_rem (by decide) ?_)
    refine (Known_V cl (hb.below hb5)).mono ?_
    rintro r6 w6 ⟨ho6, hf6, hb6⟩
    (repeat with_reducible first | refine nck ?_ | refine cdT ?_ | refine cdF ?_ | refine gdY ?_ | refine gdFT ?_ | refine gdTF ?_ | refine gdU ?_ | refine gaY ?_ | refine gaFT ?_ | refine gaTF ?_ | refine pickT ?_ | refine pickF ?_ | refine bi_lss_t (by omega) ?_ | refine bi_lss_f (by omega) ?_ | refine bi_add64 (by omega) ?_ | refine bi_sub64 (by omega) ?_ | refine bi_eql_t (by omega) ?_ | refine bi_eql_f (by omega) ?_ | refine bi_neq_t (by omega) ?_ | refine bi_neq_f (by omega) ?_ | refine bi_gtr_t (by omega) ?_ | refine bi_gtr_f (by omega) ?_ | refine bi_leq_t (by omega) ?_ | refine bi_leq_f (by omega) ?_ | refine bi_geq_t (by omega) ?_ | refine bi_geq_f (by omega) ?_ | refine bi_xt0 ?_ | refine bi_xt1 ?_ | refine bi_xt2 ?_ | refine bi_xt3 ?_ | refine bi_T ?_ | refine bi_F ?_ | refine bi_not ?_ | refine bi_and ?_ | refine bi_or ?_ | refine bi_xor ?_ | refine bi_shr (by omega) (by decide) ?_ | refine bi_shl (by omega) (by decide) ?_ | refine bi_quo64 (by omega) ?_ | refine bi_rem64 (by omega) ?_ | refine bi_mul64 (by omega) ?_ | refine bi_neg ?_ | refine bi_un_xor32 ?_ | refine bi_add ?_ | refine bi_sub ?_ | refine bi_mul ?_ | refine bi_quo (by decide) ?_ | refine bi_rem (by decide) ?_)
    rw [heq] at ho5
    have g := hb.good cl
    have h4 := g.len
    refine (sameInts_spec r5 r6 _ w6 (ho5.below hb6).rd ho6.rd (by rw [List.length_map]; omega)).mono ?_
    rintro _ w7 ⟨rfl, hb7⟩
    have hb47 := below_then (below_then hb5 hb6) hb7
    (repeat with_reducible first | refine nck ?_ | refine cdT ?_ | refine cdF ?_ | refine gdY ?_ | refine gdFT ?_ | refine gdTF ?_ | refine gdU ?_ | refine gaY ?_ | refine gaFT ?_ | refine gaTF ?_ | refine pickT ?_ | refine pickF ?_ | refine bi_lss_t (by omega) ?_ | refine bi_lss_f (by omega) ?_ | refine bi_add64 (by omega) ?_ | refine bi_sub64 (by omega) ?_ | refine bi_eql_t (by omega) ?_ | refine bi_eql_f (by omega) ?_ | refine bi_neq_t (by omega) ?_ | refine bi_neq_f (by omega) ?_ | refine bi_gtr_t (by omega) ?_ | refine bi_gtr_f (by omega) ?_ | refine bi_leq_t (by omega) ?_ | refine bi_leq_f (by omega) ?_ | refine bi_geq_t (by omega) ?_ | refine bi_geq_f (by omega) ?_ | refine bi_xt0 ?_ | refine bi_xt1 ?_ | refine bi_xt2 ?_ | refine bi_xt3 ?_ | refine bi_T ?_ | refine bi_F ?_ | refine bi_not ?_ | refine bi_and ?_ | refine bi_or ?_ | refine bi_xor ?_ | refine bi_shr (by omega) (by decide) ?_ | refine bi_shl (by omega) (by decide) ?_ | refine bi_quo64 (by omega) ?_ | refine bi_rem64 (by omega) ?_ | refine bi_mul64 (by omega) ?_ | refine bi_neg ?_ | refine bi_un_xor32 ?_ | refine bi_add ?_ | refine bi_sub ?_ | refine bi_mul ?_ | refine bi_quo (by decide) ?_ | refine bi_rem (by decide) ?_)
    have ha7 := ha.below hb47
    have hbb7 := hb.below hb47
    have hb7' := below_then hb4 hb47
    refine (Known_V cl ha7).mono ?_
    rintro r8 w8 ⟨ho8, hf8, hb8⟩
    rw [heq] at ho8
    have hb8' := below_then hb7' hb8
    have ha8 := ha7.below hb8
    have hbb8 := hbb7.below hb8
    have hlen8 : (((U cl).2.map (·.1)).map (Value.int .i64)).length = (U cl).2.length := by simp
    have hrd8 := ho8.rd
    obtain ⟨A8, c8, rfl, _, _⟩ := hrd8.slice
    rw [hlen8] at hrd8 ho8 ⊢
    refine LoopP.inv1 (fun iv w' => ∃ (k : Nat), k ≤ (U cl).2.length ∧ iv = .int .i64 k ∧ Below w8.heap.size w8 w') (fun iv _ => (U cl).2.length - (intOf iv).toNat) ⟨0, by omega, rfl, Below.refl _ _⟩ ?_
    rintro _ w9 ⟨i, hi, rfl, hb9⟩ J hJ
    dsimp only [List.headD_cons, List.tail_cons]
    refine ln und51 ?_
    refine bi_lss_c (fun h => ?_) (fun h => ?_)
    · have hi' : i < (U cl).2.length := by omega
      have hi2 : i < ((U cl).2.map (·.1)).length := by simpa using hi'
      obtain ⟨a8, rfl, hca⟩ := Rd.atI (hrd8.below hb9) i hi2
      have hkey : ((U cl).2.map (·.1))[i] = (U cl).2[i].1 := by simp
      rw [hkey] at hca
      have hidr : 0 ≤ cl ∧ cl ≤ 1099511627776 := hin cl (by rw [heq]; exact fun e => by rw [e] at hi'; simp at hi')
      have hm : (U cl).2[i] ∈ (U cl).2 := List.getElem_mem hi'
      have lk1 : lookQ V cl (U cl).2[i].1 = (0, some (U cl).2[i].2) := lookQ_known ha.good cl hidr (by rw [heq]; exact hm)
      have lk2 : lookQ U cl (U cl).2[i].1 = (0, some (U cl).2[i].2) := lookQ_known hb.good cl hidr hm
      (repeat with_reducible first | refine ix1 und51 sz3 hi' ?_ | refine ld one3 hca ?_ | refine nck ?_ | refine cdT ?_ | refine cdF ?_ | refine gdY ?_ | refine gdFT ?_ | refine gdTF ?_ | refine gdU ?_ | refine gaY ?_ | refine gaFT ?_ | refine gaTF ?_ | refine pickT ?_ | refine pickF ?_ | refine bi_lss_t (by omega) ?_ | refine bi_lss_f (by omega) ?_ | refine bi_add64 (by omega) ?_ | refine bi_sub64 (by omega) ?_ | refine bi_eql_t (by omega) ?_ | refine bi_eql_f (by omega) ?_ | refine bi_neq_t (by omega) ?_ | refine bi_neq_f (by omega) ?_ | refine bi_gtr_t (by omega) ?_ | refine bi_gtr_f (by omega) ?_ | refine bi_leq_t (by omega) ?_ | refine bi_leq_f (by omega) ?_ | refine bi_geq_t (by omega) ?_ | refine bi_geq_f (by omega) ?_ | refine bi_xt0 ?_ | refine bi_xt1 ?_ | refine bi_xt2 ?_ | refine bi_xt3 ?_ | refine bi_T ?_ | refine bi_F ?_ | refine bi_not ?_ | refine bi_and ?_ | refine bi_or ?_ | refine bi_xor ?_ | refine bi_shr (by omega) (by decide) ?_ | refine bi_shl (by omega) (by decide) ?_ | refine bi_quo64 (by omega) ?_ | refine bi_rem64 (by omega) ?_ | refine bi_mul64 (by omega) ?_ | refine bi_neg ?_ | refine bi_un_xor32 ?_ | refine bi_add ?_ | refine bi_sub ?_ | refine bi_mul ?_ | refine bi_quo (by decide) ?_ | refine bi_rem (by decide) ?_)
      refine (Look_V cl (U cl).2[i].1 (ha8.below hb9)).mono ?_
      rintro _ w10 ⟨p10, rfl, hop10, hfp10, hb10⟩
      rw [lk1] at hop10 ⊢
      have h1p : p10.oneCell' = true := by obtain ⟨A, e⟩ := hop10.slice; rw [e]; rfl
      (repeat with_reducible first | refine nck ?_ | refine cdT ?_ | refine cdF ?_ | refine gdY ?_ | refine gdFT ?_ | refine gdTF ?_ | refine gdU ?_ | refine gaY ?_ | refine gaFT ?_ | refine gaTF ?_ | refine pickT ?_ | refine pickF ?_ | refine bi_lss_t (by omega) ?_ | refine bi_lss_f (by omega) ?_ | refine bi_add64 (by omega) ?_ | refine bi_sub64 (by omega) ?_ | refine bi_eql_t (by omega) ?_ | refine bi_eql_f (by omega) ?_ | refine bi_neq_t (by omega) ?_ | refine bi_neq_f (by omega) ?_ | refine bi_gtr_t (by omega) ?_ | refine bi_gtr_f (by omega) ?_ | refine bi_leq_t (by omega) ?_ | refine bi_leq_f (by omega) ?_ | refine bi_geq_t (by omega) ?_ | refine bi_geq_f (by omega) ?_ | refine bi_xt0 ?_ | refine bi_xt1 ?_ | refine bi_xt2 ?_ | refine bi_xt3 ?_ | refine bi_T ?_ | refine bi_F ?_ | refine bi_not ?_ | refine bi_and ?_ | refine bi_or ?_ | refine bi_xor ?_ | refine bi_shr (by omega) (by decide) ?_ | refine bi_shl (by omega) (by decide) ?_ | refine bi_quo64 (by omega) ?_ | refine bi_rem64 (by omega) ?_ | refine bi_mul64 (by omega) ?_ | refine bi_neg ?_ | refine bi_un_xor32 ?_ | refine bi_add ?_ | refine bi_sub ?_ | refine bi_mul ?_ | refine bi_quo (by decide) ?_ | refine bi_rem (by decide) ?_)
      refine newRep h1p rfl ?_
      intro w11 hM11 hb11
      have hb911 := below_then hb10 hb11
      have hca11 : w11.cell? (a8.add i) = some (.int .i64 (U cl).2[i].1) := by rw [hb911.cell (World.block_lt_of_cell? _ _ hca), hca]
      (repeat with_reducible first | refine ix1 und51 sz3 hi' ?_ | refine ld one3 hca11 ?_ | refine nck ?_ | refine cdT ?_ | refine cdF ?_ | refine gdY ?_ | refine gdFT ?_ | refine gdTF ?_ | refine gdU ?_ | refine gaY ?_ | refine gaFT ?_ | refine gaTF ?_ | refine pickT ?_ | refine pickF ?_ | refine bi_lss_t (by omega) ?_ | refine bi_lss_f (by omega) ?_ | refine bi_add64 (by omega) ?_ | refine bi_sub64 (by omega) ?_ | refine bi_eql_t (by omega) ?_ | refine bi_eql_f (by omega) ?_ | refine bi_neq_t (by omega) ?_ | refine bi_neq_f (by omega) ?_ | refine bi_gtr_t (by omega) ?_ | refine bi_gtr_f (by omega) ?_ | refine bi_leq_t (by omega) ?_ | refine bi_leq_f (by omega) ?_ | refine bi_geq_t (by omega) ?_ | refine bi_geq_f (by omega) ?_ | refine bi_xt0 ?_ | refine bi_xt1 ?_ | refine bi_xt2 ?_ | refine bi_xt3 ?_ | refine bi_T ?_ | refine bi_F ?_ | refine bi_not ?_ | refine bi_and ?_ | refine bi_or ?_ | refine bi_xor ?_ | refine bi_shr (by omega) (by decide) ?_ | refine bi_shl (by omega) (by decide) ?_ | refine bi_quo64 (by omega) ?_ | refine bi_rem64 (by omega) ?_ | refine bi_mul64 (by omega) ?_ | refine bi_neg ?_ | refine bi_un_xor32 ?_ | refine bi_add ?_ | refine bi_sub ?_ | refine bi_mul ?_ | refine bi_quo (by decide) ?_ | refine bi_rem (by decide) ?_)
      refine (Look_V cl (U cl).2[i].1 ((hbb8.below hb9).below hb911)).mono ?_
      rintro _ w12 ⟨p12, rfl, hop12, hfp12, hb12⟩
      rw [lk2] at hop12 ⊢
      have h1p12 : p12.oneCell' = true := by obtain ⟨A, e⟩ := hop12.slice; rw [e]; rfl
      (repeat with_reducible first | refine nck ?_ | refine cdT ?_ | refine cdF ?_ | refine gdY ?_ | refine gdFT ?_ | refine gdTF ?_ | refine gdU ?_ | refine gaY ?_ | refine gaFT ?_ | refine gaTF ?_ | refine pickT ?_ | refine pickF ?_ | refine bi_lss_t (by omega) ?_ | refine bi_lss_f (by omega) ?_ | refine bi_add64 (by omega) ?_ | refine bi_sub64 (by omega) ?_ | refine bi_eql_t (by omega) ?_ | refine bi_eql_f (by omega) ?_ | refine bi_neq_t (by omega) ?_ | refine bi_neq_f (by omega) ?_ | refine bi_gtr_t (by omega) ?_ | refine bi_gtr_f (by omega) ?_ | refine bi_leq_t (by omega) ?_ | refine bi_leq_f (by omega) ?_ | refine bi_geq_t (by omega) ?_ | refine bi_geq_f (by omega) ?_ | refine bi_xt0 ?_ | refine bi_xt1 ?_ | refine bi_xt2 ?_ | refine bi_xt3 ?_ | refine bi_T ?_ | refine bi_F ?_ | refine bi_not ?_ | refine bi_and ?_ | refine bi_or ?_ | refine bi_xor ?_ | refine bi_shr (by omega) (by decide) ?_ | refine bi_shl (by omega) (by decide) ?_ | refine bi_quo64 (by omega) ?_ | refine bi_rem64 (by omega) ?_ | refine bi_mul64 (by omega) ?_ | refine bi_neg ?_ | refine bi_un_xor32 ?_ | refine bi_add ?_ | refine bi_sub ?_ | refine bi_mul ?_ | refine bi_quo (by decide) ?_ | refine bi_rem (by decide) ?_)
      refine newRep h1p12 rfl ?_
      intro w13 hM13 hb13
      have hb1113 := below_then hb12 hb13
      have hM13' := hM11.below' hb1113
      have hok : ∀ x ∈ (U cl).2[i].2.2, valOk x := (hb.good cl).ok _ hm
      have hv10 : Vals w13 [p10] (U cl).2[i].2.2 := ((hop10.below hb11).below hb1113).rd (l := (U cl).2[i].2.2) (fun _ => rfl) fun x hx => rVal_of (hok x hx)
      have hv12 : Vals w13 [p12] (U cl).2[i].2.2 := (hop12.below hb13).rd (l := (U cl).2[i].2.2) (fun _ => rfl) fun x hx => rVal_of (hok x hx)
      refine bi_neq ?_
      rw [decide_eq_false (by simp)]
      (repeat with_reducible first | refine nck ?_ | refine cdT ?_ | refine cdF ?_ | refine gdY ?_ | refine gdFT ?_ | refine gdTF ?_ | refine gdU ?_ | refine gaY ?_ | refine gaFT ?_ | refine gaTF ?_ | refine pickT ?_ | refine pickF ?_ | refine bi_lss_t (by omega) ?_ | refine bi_lss_f (by omega) ?_ | refine bi_add64 (by omega) ?_ | refine bi_sub64 (by omega) ?_ | refine bi_eql_t (by omega) ?_ | refine bi_eql_f (by omega) ?_ | refine bi_neq_t (by omega) ?_ | refine bi_neq_f (by omega) ?_ | refine bi_gtr_t (by omega) ?_ | refine bi_gtr_f (by omega) ?_ | refine bi_leq_t (by omega) ?_ | refine bi_leq_f (by omega) ?_ | refine bi_geq_t (by omega) ?_ | refine bi_geq_f (by omega) ?_ | refine bi_xt0 ?_ | refine bi_xt1 ?_ | refine bi_xt2 ?_ | refine bi_xt3 ?_ | refine bi_T ?_ | refine bi_F ?_ | refine bi_not ?_ | refine bi_and ?_ | refine bi_or ?_ | refine bi_xor ?_ | refine bi_shr (by omega) (by decide) ?_ | refine bi_shl (by omega) (by decide) ?_ | refine bi_quo64 (by omega) ?_ | refine bi_rem64 (by omega) ?_ | refine bi_mul64 (by omega) ?_ | refine bi_neg ?_ | refine bi_un_xor32 ?_ | refine bi_add ?_ | refine bi_sub ?_ | refine bi_mul ?_ | refine bi_quo (by decide) ?_ | refine bi_rem (by decide) ?_)
      refine ldA agg27 hM13' (by exact sz27) ?_
      (repeat with_reducible first | refine nck ?_ | refine cdT ?_ | refine cdF ?_ | refine gdY ?_ | refine gdFT ?_ | refine gdTF ?_ | refine gdU ?_ | refine gaY ?_ | refine gaFT ?_ | refine gaTF ?_ | refine pickT ?_ | refine pickF ?_ | refine bi_lss_t (by omega) ?_ | refine bi_lss_f (by omega) ?_ | refine bi_add64 (by omega) ?_ | refine bi_sub64 (by omega) ?_ | refine bi_eql_t (by omega) ?_ | refine bi_eql_f (by omega) ?_ | refine bi_neq_t (by omega) ?_ | refine bi_neq_f (by omega) ?_ | refine bi_gtr_t (by omega) ?_ | refine bi_gtr_f (by omega) ?_ | refine bi_leq_t (by omega) ?_ | refine bi_leq_f (by omega) ?_ | refine bi_geq_t (by omega) ?_ | refine bi_geq_f (by omega) ?_ | refine bi_xt0 ?_ | refine bi_xt1 ?_ | refine bi_xt2 ?_ | refine bi_xt3 ?_ | refine bi_T ?_ | refine bi_F ?_ | refine bi_not ?_ | refine bi_and ?_ | refine bi_or ?_ | refine bi_xor ?_ | refine bi_shr (by omega) (by decide) ?_ | refine bi_shl (by omega) (by decide) ?_ | refine bi_quo64 (by omega) ?_ | refine bi_rem64 (by omega) ?_ | refine bi_mul64 (by omega) ?_ | refine bi_neg ?_ | refine bi_un_xor32 ?_ | refine bi_add ?_ | refine bi_sub ?_ | refine bi_mul ?_ | refine bi_quo (by decide) ?_ | refine bi_rem (by decide) ?_)
      refine ldA agg27 hM13 (by exact sz27) ?_
      (repeat with_reducible first | refine nck ?_ | refine cdT ?_ | refine cdF ?_ | refine gdY ?_ | refine gdFT ?_ | refine gdTF ?_ | refine gdU ?_ | refine gaY ?_ | refine gaFT ?_ | refine gaTF ?_ | refine pickT ?_ | refine pickF ?_ | refine bi_lss_t (by omega) ?_ | refine bi_lss_f (by omega) ?_ | refine bi_add64 (by omega) ?_ | refine bi_sub64 (by omega) ?_ | refine bi_eql_t (by omega) ?_ | refine bi_eql_f (by omega) ?_ | refine bi_neq_t (by omega) ?_ | refine bi_neq_f (by omega) ?_ | refine bi_gtr_t (by omega) ?_ | refine bi_gtr_f (by omega) ?_ | refine bi_leq_t (by omega) ?_ | refine bi_leq_f (by omega) ?_ | refine bi_geq_t (by omega) ?_ | refine bi_geq_f (by omega) ?_ | refine bi_xt0 ?_ | refine bi_xt1 ?_ | refine bi_xt2 ?_ | refine bi_xt3 ?_ | refine bi_T ?_ | refine bi_F ?_ | refine bi_not ?_ | refine bi_and ?_ | refine bi_or ?_ | refine bi_xor ?_ | refine bi_shr (by omega) (by decide) ?_ | refine bi_shl (by omega) (by decide) ?_ | refine bi_quo64 (by omega) ?_ | refine bi_rem64 (by omega) ?_ | refine bi_mul64 (by omega) ?_ | refine bi_neg ?_ | refine bi_un_xor32 ?_ | refine bi_add ?_ | refine bi_sub ?_ | refine bi_mul ?_ | refine bi_quo (by decide) ?_ | refine bi_rem (by decide) ?_)
      refine (sameRep_spec (U cl).2[i].2.1 _ _ _ _ _ w13 hv10 hv12 (RowsR.nil _ 0 (by decide)) (RowsR.nil _ 0 (by decide))).mono ?_
      rintro _ w14 ⟨rfl, hb14⟩
      (repeat with_reducible first | refine nck ?_ | refine cdT ?_ | refine cdF ?_ | refine gdY ?_ | refine gdFT ?_ | refine gdTF ?_ | refine gdU ?_ | refine gaY ?_ | refine gaFT ?_ | refine gaTF ?_ | refine pickT ?_ | refine pickF ?_ | refine bi_lss_t (by omega) ?_ | refine bi_lss_f (by omega) ?_ | refine bi_add64 (by omega) ?_ | refine bi_sub64 (by omega) ?_ | refine bi_eql_t (by omega) ?_ | refine bi_eql_f (by omega) ?_ | refine bi_neq_t (by omega) ?_ | refine bi_neq_f (by omega) ?_ | refine bi_gtr_t (by omega) ?_ | refine bi_gtr_f (by omega) ?_ | refine bi_leq_t (by omega) ?_ | refine bi_leq_f (by omega) ?_ | refine bi_geq_t (by omega) ?_ | refine bi_geq_f (by omega) ?_ | refine bi_xt0 ?_ | refine bi_xt1 ?_ | refine bi_xt2 ?_ | refine bi_xt3 ?_ | refine bi_T ?_ | refine bi_F ?_ | refine bi_not ?_ | refine bi_and ?_ | refine bi_or ?_ | refine bi_xor ?_ | refine bi_shr (by omega) (by decide) ?_ | refine bi_shl (by omega) (by decide) ?_ | refine bi_quo64 (by omega) ?_ | refine bi_rem64 (by omega) ?_ | refine bi_mul64 (by omega) ?_ | refine bi_neg ?_ | refine bi_un_xor32 ?_ | refine bi_add ?_ | refine bi_sub ?_ | refine bi_mul ?_ | refine bi_quo (by decide) ?_ | refine bi_rem (by decide) ?_)
      exact hJ _ _ ⟨i + 1, by omega, by simp, below_then (below_then (below_then hb9 hb911) hb1113) hb14⟩ (by simp [intOf]; omega)
    · (repeat with_reducible first | refine nck ?_ | refine cdT ?_ | refine cdF ?_ | refine gdY ?_ | refine gdFT ?_ | refine gdTF ?_ | refine gdU ?_ | refine gaY ?_ | refine gaFT ?_ | refine gaTF ?_ | refine pickT ?_ | refine pickF ?_ | refine bi_lss_t (by omega) ?_ | refine bi_lss_f (by omega) ?_ | refine bi_add64 (by omega) ?_ | refine bi_sub64 (by omega) ?_ | refine bi_eql_t (by omega) ?_ | refine bi_eql_f (by omega) ?_ | refine bi_neq_t (by omega) ?_ | refine bi_neq_f (by omega) ?_ | refine bi_gtr_t (by omega) ?_ | refine bi_gtr_f (by omega) ?_ | refine bi_leq_t (by omega) ?_ | refine bi_leq_f (by omega) ?_ | refine bi_geq_t (by omega) ?_ | refine bi_geq_f (by omega) ?_ | refine bi_xt0 ?_ | refine bi_xt1 ?_ | refine bi_xt2 ?_ | refine bi_xt3 ?_ | refine bi_T ?_ | refine bi_F ?_ | refine bi_not ?_ | refine bi_and ?_ | refine bi_or ?_ | refine bi_xor ?_ | refine bi_shr (by omega) (by decide) ?_ | refine bi_shl (by omega) (by decide) ?_ | refine bi_quo64 (by omega) ?_ | refine bi_rem64 (by omega) ?_ | refine bi_mul64 (by omega) ?_ | refine bi_neg ?_ | refine bi_un_xor32 ?_ | refine bi_add ?_ | refine bi_sub ?_ | refine bi_mul ?_ | refine bi_quo (by decide) ?_ | refine bi_rem (by decide) ?_)
      exact ⟨rfl, below_then hb8' hb9⟩
end Go.Proofs.Ytmnaggdhkggjhaa.E
