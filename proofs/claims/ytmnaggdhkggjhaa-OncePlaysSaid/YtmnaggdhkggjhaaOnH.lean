/- The table, told by its clients' views: New, Look, Keep, Floor. -/
import Derived.Test.YtmnaggdhkggjhaaOnG
namespace Go.Proofs.Ytmnaggdhkggjhaa.E
open Go Go.RowKit
set_option linter.unusedSimpArgs false
set_option linter.unusedVariables false

theorem setK_len {α : Type} {k : Int} {v u : α} : ∀ {l : List (Int × α)}, getK k l = some u → (setK k v l).length = l.length
  | [], h => by cases h
  | (a, x) :: r, h => by
    rw [getK] at h
    rw [setK]
    split at h
    · rename_i hk; rw [if_pos hk]; rfl
    · rename_i hk; rw [if_neg hk, List.length_cons, setK_len h, List.length_cons]
theorem getK_setK_same {α : Type} {k : Int} {v : α} : ∀ {l : List (Int × α)}, getK k (setK k v l) = some v
  | [] => by simp [setK, getK]
  | (a, x) :: r => by
    rw [setK]
    split
    · simp [getK]
    · rename_i hk; rw [getK, if_neg hk, getK_setK_same]
theorem getK_setK_other {α : Type} {k i : Int} (v : α) : ∀ (l : List (Int × α)), i ≠ k → getK i (setK k v l) = getK i l
  | [], h => by simp [setK, getK, h]
  | (a, x) :: r, h => by
    rw [setK]
    split
    · rename_i hk; subst hk; rw [getK, getK, if_neg h, if_neg h]
    · rw [getK, getK, getK_setK_other v r h]
theorem getK_app_other {α : Type} {k i : Int} (v : α) : ∀ (l : List (Int × α)), i ≠ k → getK i (l ++ [(k, v)]) = getK i l
  | [], h => by simp [getK, h]
  | (a, x) :: r, h => by rw [List.cons_append, getK, getK, getK_app_other v r h]
def SeesO (o : Option Cli) (v : VC) : Prop := match o with
  | none => v = (0, [])
  | some C => Sees C v
/-- A table in memory, in its colour: what is known of each client; there are at most N clients. -/
structure TabV (hu : Nat) (c : Nat → Nat) (w : World) (g : Nat) (V : Int → VC) (N : Nat) : Prop where
  good : ∀ id, GoodV (V id)
  out : ∃ T, TabC hu c w g T ∧ T.length ≤ N ∧ ∀ id, SeesO (getK id T) (V id)
def V0 : Int → VC := fun _ => (0, [])
def setV (V : Int → VC) (id : Int) (v : VC) : Int → VC := fun i => if i = id then v else V i
theorem setV_same (V : Int → VC) (id : Int) (v : VC) : setV V id v id = v := by simp [setV]
theorem setV_other (V : Int → VC) {id i : Int} (v : VC) (h : i ≠ id) : setV V id v i = V i := by simp [setV, h]
section
variable {hu : Nat} {c c' : Nat → Nat} {w w' : World} {g : Nat} {V : Int → VC} {N : Nat}
theorem TabV.turns {F : Nat → Prop} (h : TabV hu c w g V N) (hT : Turns F w w') (hF : ∀ k, F k → c k % 1000 ≠ hu) : TabV hu c w' g V N := by
  obtain ⟨T, h1, h2⟩ := h.out
  exact ⟨h.good, T, h1.turns hT hF, h2⟩
theorem TabV.below (h : TabV hu c w g V N) (hb : Below w.heap.size w w') : TabV hu c w' g V N := by
  obtain ⟨T, h1, h2⟩ := h.out
  exact ⟨h.good, T, h1.below hb, h2⟩
theorem TabV.re (h : TabV hu c w g V N) (hc : ∀ k, k < w.heap.size → c' k = c k) : TabV hu c' w g V N := by
  obtain ⟨T, h1, h2⟩ := h.out
  exact ⟨h.good, T, h1.re hc, h2⟩
theorem TabV.mono (h : TabV hu c w g V N) {M : Nat} (hm : N ≤ M) : TabV hu c w g V M := by
  obtain ⟨T, h1, h2, h3⟩ := h.out
  exact ⟨h.good, T, h1, by omega, h3⟩
theorem TabV.hh (h : TabV hu c w g V N) : 0 < hu ∧ hu < 1000 := by
  obtain ⟨T, ⟨bm, h1⟩, _⟩ := h.out
  exact h1.hh
theorem TabV.other {hu2 : Nat} (h : TabV hu2 c w g V N) (hT : Turns (Dh hu c) w w') (hne : hu ≠ hu2) (hc : ∀ k, k < w.heap.size → c' k = c k) : TabV hu2 c' w' g V N := by
  refine (h.re hc).turns (F := fun k => Dh hu c k ∧ k < w.heap.size) ⟨hT.os, hT.tape, hT.output, hT.size, fun k hk hF => hT.block k hk fun e => hF ⟨e, hk⟩⟩ fun k hk => ?_
  rw [hc k hk.2, hk.1]; exact hne
end
theorem New_V (hu : Nat) (hh : 0 < hu ∧ hu < 1000) (c : Nat → Nat) (w : World) : CallP Try.prog 10 #[] (fun r w' => ∃ g c', r = .pointer (some ⟨g, 0, none⟩) ∧ (∀ k, k < w.heap.size → c' k = c k) ∧ TabV hu c' w' g V0 0 ∧ Below w.heap.size w w') w := by
  refine (New_tab hu hh c w).mono ?_
  rintro _ w' ⟨g, c', rfl, h1, h2, h3⟩
  exact ⟨g, c', rfl, h1, ⟨fun _ => goodV0, [], h2, by simp, fun _ => rfl⟩, h3⟩
/-! ### Look -/
def lookQ (V : Int → VC) (id n : Int) : Int × Option Rm := if badP id n then (1, none) else lookV (V id) n
theorem lookP_V {T : List (Int × Cli)} {V : Int → VC} (hg : ∀ id, GoodV (V id)) (h : ∀ id, SeesO (getK id T) (V id)) (id n : Int) : (lookP T id n).1 = (lookQ V id n).1 ∧ (lookP T id n).2.map Rp.abs = (lookQ V id n).2 := by
  unfold lookP lookQ
  split
  · exact ⟨rfl, rfl⟩
  · rename_i hbad
    have hn : 1 ≤ n := by
      simp only [badP, Bool.not_eq_true, Bool.not_eq_false', Bool.and_eq_true, decide_eq_true_eq] at hbad
      omega
    have h1 := h id
    cases hx : getK id T with
    | none =>
      rw [hx] at h1
      have h1 : V id = (0, []) := h1
      rw [h1, lookV, if_neg (by simp only; omega)]
      exact ⟨rfl, rfl⟩
    | some C =>
      rw [hx] at h1
      have h1 : Sees C (V id) := h1
      have h2 := h1.get (hg id) n
      unfold lookV
      simp only
      rw [← h2, h1.fl]
      split
      · exact ⟨rfl, rfl⟩
      · cases getK n C.l <;> exact ⟨rfl, rfl⟩
def toldQR (o : Option Rm) : Rep := (o.map (·.1)).getD zeroRep
def toldQV (o : Option Rm) : List ValT := (o.map (·.2)).getD []
/-- What a look tells: the error; a reply with values of its own. -/
def LookQ (w : World) (o : Int × Option Rm) (r : Value) (w' : World) : Prop :=
  ∃ p', r = .tuple #[.agg ((toldQR o.2).cells p' (.slice none 0 0)), .int .i64 o.1] ∧ OwnS 3 36 w' p' (toldQV o.2).length ((toldQV o.2).flatMap valF) ∧ Fresh w.heap.size p' ∧ Below w.heap.size w w'
theorem Look_V {hu : Nat} {c : Nat → Nat} {w : World} {g : Nat} {V : Int → VC} {N : Nat} (id n : Int) (h : TabV hu c w g V N) :
    CallP Try.prog 12 #[.pointer (some ⟨g, 0, none⟩), .int .i64 id, .int .i64 n] (LookQ w (lookQ V id n)) w := by
  obtain ⟨T, h1, h2, h3⟩ := h.out
  refine (Look_tab c w g T id n h1).mono ?_
  rintro _ w' ⟨p', rfl, ho, hf, hb⟩
  obtain ⟨e1, e2⟩ := lookP_V h.good h3 id n
  have eR : toldQR (lookQ V id n).2 = toldR (lookP T id n).2 := by rw [← e2]; cases (lookP T id n).2 <;> rfl
  have eV : toldQV (lookQ V id n).2 = toldV (lookP T id n).2 := by rw [← e2]; cases (lookP T id n).2 <;> rfl
  unfold LookQ
  rw [eR, eV, ← e1]
  exact ⟨p', rfl, ho, hf, hb⟩
theorem lookV_mem {v : VC} {n : Int} {m : Rm} (h : (lookV v n).2 = some m) : (n, m) ∈ v.2 := by
  unfold lookV at h
  split at h
  · cases h
  · split at h
    · rename_i m' hm
      simp only [Option.some.injEq] at h
      subst h
      exact getK_mem _ _ _ hm
    · cases h
theorem lookQ_ok {V : Int → VC} (hg : ∀ id, GoodV (V id)) (id n : Int) : ∀ x ∈ toldQV (lookQ V id n).2, valOk x := by
  intro x hx
  cases ho : (lookQ V id n).2 with
  | none => rw [ho] at hx; simp [toldQV] at hx
  | some m =>
    rw [ho] at hx
    unfold lookQ at ho
    split at ho
    · cases ho
    · exact (hg id).ok _ (lookV_mem ho) x hx
/-! ### Keep -/
def keepQ (V : Int → VC) (id n : Int) (R : Rep) (vs : List ValT) (rows : Nat) : Int × (Int → VC) :=
  if argP id n R vs rows = true then (1, V) else if (lookQ V id n).1 = 12 then (12, V) else if (lookQ V id n).1 = 0 then (8, V) else (0, setV V id (putV (V id) n (R, vs)))
theorem lookQ_new {V : Int → VC} {id n : Int} (h1 : (lookQ V id n).1 ≠ 1) (h12 : (lookQ V id n).1 ≠ 12) (h0 : (lookQ V id n).1 ≠ 0) : (0 ≤ id ∧ id ≤ 1099511627776) ∧ (1 ≤ n ∧ n ≤ 1099511627776) ∧ (V id).1 < n ∧ ∀ p ∈ (V id).2, p.1 ≠ n := by
  unfold lookQ at h1 h12 h0
  split at h1
  · exact absurd rfl h1
  · rename_i hbad
    rw [if_neg hbad] at h12 h0
    unfold lookV at h12 h0
    split at h12
    · exact absurd rfl h12
    · rename_i hle
      rw [if_neg hle] at h0
      simp only [badP, Bool.not_eq_true, Bool.not_eq_false', Bool.and_eq_true, decide_eq_true_eq] at hbad
      refine ⟨hbad.1, hbad.2, by omega, ?_⟩
      cases hx : getK n (V id).2 with
      | none => exact getK_none_mem _ _ hx
      | some m => rw [hx] at h0; exact absurd rfl h0
theorem argP_bad {id n : Int} {R : Rep} {vs : List ValT} {rows : Nat} (h : argP id n R vs rows = false) : badP id n = false := by
  unfold argP at h
  cases hb : badP id n
  · rfl
  · rw [hb] at h; simp at h
theorem lookQ_bad {V : Int → VC} {id n : Int} (h : badP id n = false) : (lookQ V id n).1 ≠ 1 := by
  rw [lookQ, if_neg (by rw [h]; exact Bool.false_ne_true)]
  unfold lookV
  split
  · decide
  · split <;> simp
theorem keepQ_good {V : Int → VC} (hg : ∀ id, GoodV (V id)) (id n : Int) (R : Rep) (vs : List ValT) (rows : Nat) (hvs : ∀ x ∈ vs, valOk x) : ∀ i, GoodV ((keepQ V id n R vs rows).2 i) := by
  intro i
  unfold keepQ
  split
  · exact hg i
  · rename_i harg
    split
    · exact hg i
    · rename_i h12
      split
      · exact hg i
      · rename_i h0
        obtain ⟨_, h2, h3, h4⟩ := lookQ_new (lookQ_bad (argP_bad (by simpa using harg))) h12 h0
        simp only [setV]
        split
        · exact putV_good (hg id) h3 h2 h4 hvs
        · exact hg i
theorem Keep_V {hu : Nat} {c : Nat → Nat} {w : World} {g : Nat} {V : Int → VC} {N : Nat} (id n : Int) (R : Rep) (p q : Value) (vs : List ValT) (rows : List RowT) (h : TabV hu c w g V N)
    (hp : Vals w [p] vs) (hpc : vs = [] ∨ ∀ k, p.ownBlock = some k → c k % 1000 ≠ hu) (hq : RowsR w [q] rows) (hvl : vs.length ≤ 1000) (hN : N < 1000000) :
    CallP Try.prog 11 #[.pointer (some ⟨g, 0, none⟩), .int .i64 id, .int .i64 n, .agg (R.cells p q)]
      (fun r w' => r = .int .i64 (keepQ V id n R vs rows.length).1 ∧ ∃ c', (∀ k, k < w.heap.size → c' k = c k) ∧ TabV hu c' w' g (keepQ V id n R vs rows.length).2 (N + 1) ∧ Turns (Dh hu c) w w') w := by
  obtain ⟨T, h1, h2, h3⟩ := h.out
  have hg := h.good
  have hlenC : ∀ C, (id, C) ∈ T → C.l.length ≤ 100000 := by
    intro C hC
    obtain ⟨bm, hT⟩ := h1
    have hnd : (T.map (·.1)).Nodup := by
      have := hT.map.nodup
      rwa [List.map_map] at this
    have := h3 id
    rw [getK_of_mem hnd hC] at this
    have hs : Sees C (V id) := this
    have := hs.l.length_eq
    have h4 := (hg id).len
    simp only [absL, List.length_map] at this
    omega
  have hvs := vals_ok hp
  have hgood := keepQ_good hg id n R vs rows.length hvs
  refine (Keep_tab c w g T id n R p q vs rows h1 hp hpc hq hvl (by omega) hlenC).mono ?_
  intro r w' hk
  obtain ⟨e1, e2⟩ := lookP_V hg h3 id n
  unfold KeepPost at hk
  have leave : ∀ {e : Int}, r = .int .i64 e ∧ LeftT hu c w g T w' → keepQ V id n R vs rows.length = (e, V) → r = .int .i64 (keepQ V id n R vs rows.length).1 ∧ ∃ c', (∀ k, k < w.heap.size → c' k = c k) ∧ TabV hu c' w' g (keepQ V id n R vs rows.length).2 (N + 1) ∧ Turns (Dh hu c) w w' := by
    rintro e ⟨rfl, c', hc, hT, hTu⟩ hke
    rw [hke]
    exact ⟨rfl, c', hc, ⟨hg, T, hT, by omega, h3⟩, hTu⟩
  by_cases harg : argP id n R vs rows.length = true
  · rw [if_pos harg] at hk
    exact leave hk (by rw [keepQ, if_pos harg])
  rw [if_neg harg, e1] at hk
  by_cases h12 : (lookQ V id n).1 = 12
  · rw [if_pos h12] at hk
    exact leave hk (by rw [keepQ, if_neg harg, if_pos h12])
  rw [if_neg h12] at hk
  by_cases h0 : (lookQ V id n).1 = 0
  · rw [if_pos h0] at hk
    exact leave hk (by rw [keepQ, if_neg harg, if_neg h12, if_pos h0])
  rw [if_neg h0] at hk
  have hke : keepQ V id n R vs rows.length = (0, setV V id (putV (V id) n (R, vs))) := by rw [keepQ, if_neg harg, if_neg h12, if_neg h0]
  obtain ⟨rfl, C, T1, p', hx, hT1, c', hc, hT, hTu⟩ := hk
  rw [hke] at hgood ⊢
  obtain ⟨_, hn2, hn3, hn4⟩ := lookQ_new (lookQ_bad (argP_bad (by simpa using harg))) h12 h0
  have hsee : Sees C (V id) := by
    have := h3 id
    cases hg0 : getK id T with
    | none =>
      rw [hg0] at hT1 this
      have hv : V id = (0, []) := this
      rw [hv]
      exact ⟨hT1.2.1, by rw [hT1.2.2]; exact List.Perm.refl _⟩
    | some C0 =>
      rw [hg0] at hT1 this
      rw [hT1.2]; exact this
  refine ⟨rfl, c', hc, ⟨hgood, _, hT, ?_, fun i => ?_⟩, hTu⟩
  · have hl1 : T1.length ≤ N + 1 := by
      cases hg0 : getK id T with
      | none => rw [hg0] at hT1; rw [hT1.1]; simp; omega
      | some C0 => rw [hg0] at hT1; rw [hT1.1]; omega
    rw [setK_len hx]; exact hl1
  · by_cases hi : i = id
    · subst hi
      show SeesO _ (setV V i _ i)
      rw [setV_same, getK_setK_same]
      exact hsee.put (hg i) (m := ⟨R, p', vs⟩) hn3 hn4 C.gc C.br
    · show SeesO _ (setV V id _ i)
      rw [setV_other _ _ hi, getK_setK_other _ _ hi]
      have := h3 i
      cases hg0 : getK id T with
      | none =>
        rw [hg0] at hT1
        rw [hT1.1, getK_app_other _ _ hi]; exact this
      | some C0 => rw [hg0] at hT1; rw [hT1.1]; exact this
theorem Floor_V {hu : Nat} {c : Nat → Nat} {w : World} {g : Nat} {V : Int → VC} {N : Nat} (id : Int) (h : TabV hu c w g V N) :
    CallP Try.prog 18 #[.pointer (some ⟨g, 0, none⟩), .int .i64 id] (fun r w' => r = .int .i64 (V id).1 ∧ w = w') w := by
  obtain ⟨T, h1, h2, h3⟩ := h.out
  refine (Floor_tab c w g T id h1).mono ?_
  rintro _ w' ⟨rfl, rfl⟩
  refine ⟨?_, rfl⟩
  have := h3 id
  cases hx : getK id T with
  | none =>
    rw [hx] at this
    have hv : V id = (0, []) := this
    rw [hv]; rfl
  | some C =>
    rw [hx] at this
    have hs : Sees C (V id) := this
    rw [← hs.fl]; rfl
end Go.Proofs.Ytmnaggdhkggjhaa.E
