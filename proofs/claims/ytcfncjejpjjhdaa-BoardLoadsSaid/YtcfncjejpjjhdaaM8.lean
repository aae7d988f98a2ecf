import Derived.Test.YtcfncjejpjjhdaaM7
import Derived.Test.YtcfncjejpjjhdaaS2
import Derived.Test.YtcfncjejpjjhdaaM3
namespace Go.Proofs.Ytcfncjejpjjhdaa.E
set_option linter.unusedSimpArgs false
set_option linter.unusedVariables false

/-- The least form. -/
def lst (l : List Rg) : List Rg := formP (placesP l) ((placesP l).map fun t => decide (inL l t)) (placesP l).length
theorem lst_spec (l : List Rg) : IsLeast l (lst l) := by
  obtain ⟨q1, q2⟩ := form_map (places_asc l) (places_head l) (fun t => decide (inL l t)) (fun i hi s hcell => by rw [decide_eq_decide]; exact in_const (places_asc l) (places_ends l) hi hcell)
  exact ⟨q1, fun s => (q2 s).trans (by rw [decide_eq_true_eq])⟩
theorem IsLeast.eq {l out : List Rg} (h : IsLeast l out) : out = lst l := h.one (lst_spec l)
/-- What is left. -/
def mns (l : List Rg) (r : Rg) : List Rg := formP (placesP (l ++ [r])) ((placesP (l ++ [r])).map fun t => decide (inL l t ∧ ¬ hasR r t)) (placesP (l ++ [r])).length
theorem mns_spec (l : List Rg) (r : Rg) : IsMinus l r (mns l r) := by
  obtain ⟨hends, hr1, hr2⟩ := ends_l (l := l) (r := r)
  obtain ⟨q1, q2⟩ := form_map (places_asc (l ++ [r])) (places_head (l ++ [r])) (fun t => decide (inL l t ∧ ¬ hasR r t)) (fun i hi s hcell => by
    rw [decide_eq_decide, in_const (places_asc _) hends hi hcell, has_const (places_asc _) hr1 hr2 hi hcell])
  exact ⟨q1, fun s => (q2 s).trans (by rw [decide_eq_true_eq])⟩
theorem IsMinus.eq {l out : List Rg} {r : Rg} (h : IsMinus l r out) : out = mns l r := h.one (mns_spec l r)
theorem lst_canon {l : List Rg} (h : Canon l) : lst l = l := (IsLeast.eq (l := l) ⟨h, fun _ => Iff.rfl⟩).symm
theorem foldl_merge_len : ∀ (l out : List Rg), (l.foldl mergeStep out).length ≤ out.length + l.length
  | [], out => by simp
  | r :: l, out => by
    have h1 := foldl_merge_len l (mergeStep out r)
    have h2 := mergeStep_len out r
    rw [List.foldl_cons, List.length_cons]; omega
theorem lst_len (l : List Rg) : (lst l).length ≤ l.length := by
  have hp := List.mergeSort_perm (l.filter fun r => decide (¬ emptyR r)) (fun a b => !decide (b.1 < a.1))
  have hs := List.pairwise_mergeSort (le := fun a b : Rg => !decide (b.1 < a.1)) (fun a b c h1 h2 => by
    simp only [Bool.not_eq_true', decide_eq_false_iff_not] at *; grind) (fun a b => by
    simp only [Bool.or_eq_true, Bool.not_eq_true', decide_eq_false_iff_not]; grind) (l.filter fun r => decide (¬ emptyR r))
  have hs' := hs.imp (S := fun a b : Rg => ¬ b.1 < a.1) (fun h => by simpa using h)
  rw [← (least_of hp hs').eq]
  have h1 := foldl_merge_len ((l.filter fun r => decide (¬ emptyR r)).mergeSort fun a b => !decide (b.1 < a.1)) []
  have h2 := hp.length_eq
  have h3 : (l.filter fun r => decide (¬ emptyR r)).length ≤ l.length := List.length_filter_le _ _
  rw [List.length_nil] at h1
  omega
theorem tA_low {x r m : Rg} (h : m ∈ tA x r) : x.1 < r.1 := by
  unfold tA at h
  split at h
  · obtain ⟨h1, _, h3⟩ := meetP_some (by simpa using h)
    have h4 := (h3 m.1).1 (has_lo h1)
    unfold hasR at h4
    simp only at h4
    grind
  · simp at h
theorem tB_high {x r m : Rg} (h : m ∈ tB' x r) : r.2 ≠ [] ∧ (x.2 = [] ∨ r.2 < x.2) := by
  unfold tB' at h
  split at h
  · rename_i hr
    obtain ⟨h1, _, h3⟩ := meetP_some (by simpa using h)
    have h4 := (h3 m.1).1 (has_lo h1)
    unfold hasR at h4
    simp only at h4
    grind
  · simp at h
theorem lefts_low {r : Rg} : ∀ {l : List Rg}, (∀ y ∈ l, ¬ y.1 < r.1) → (l.flatMap fun x => leftP x r).length ≤ l.length
  | [], _ => by simp
  | x :: l, h => by
    have ih := lefts_low (l := l) fun y hy => h y (by simp [hy])
    have ha : tA x r = [] := List.eq_nil_iff_forall_not_mem.2 fun m hm => h x (by simp) (tA_low hm)
    have hb := tB_len x r
    rw [List.flatMap_cons, List.length_append, left_two, ha, List.nil_append, List.length_cons]
    omega
theorem lefts_len1 {r : Rg} (hr : ¬ emptyR r) : ∀ {l : List Rg}, Canon l → (l.flatMap fun x => leftP x r).length ≤ l.length + 1
  | [], _ => by simp
  | x :: l, h => by
    have ih := lefts_len1 hr h.tail
    have hx := h.1 x (by simp)
    have hg := (List.pairwise_cons.1 h.2).1
    have la := tA_len x r
    have lb := tB_len x r
    rw [List.flatMap_cons, List.length_append, left_two, List.length_append, List.length_cons]
    by_cases h1 : tA x r = []
    · rw [h1, List.length_nil]; omega
    · by_cases h2 : tB' x r = []
      · rw [h2, List.length_nil]; omega
      · obtain ⟨m, hm⟩ := List.exists_mem_of_ne_nil _ h2
        obtain ⟨q1, q2⟩ := tB_high hm
        have := lefts_low (r := r) (l := l) fun y hy => by
          have h3 := hg y hy
          unfold gapR at h3
          unfold emptyR at hr
          grind
        omega
theorem mns_len {l : List Rg} (h : Canon l) (r : Rg) : (mns l r).length ≤ l.length + 1 := by
  by_cases he : emptyR r
  · have : IsMinus l r l := ⟨h, fun s => ⟨fun e => ⟨e, has_empty he s⟩, fun e => e.1⟩⟩
    rw [← this.eq]; omega
  · have : IsMinus l r (l.flatMap fun x => leftP x r) := minus_of ⟨h, fun _ => Iff.rfl⟩ he
    rw [← this.eq]
    exact lefts_len1 he h
end Go.Proofs.Ytcfncjejpjjhdaa.E
namespace Go.Proofs.Ytcfncjejpjjhdaa.E
set_option linter.unusedSimpArgs false
set_option linter.unusedVariables false

/-- An index: its fields, its state, ranges (the implementation: what is left; the reference: what is full). -/
structure Ln where
  fs : List Int
  st : Int
  rs : List Rg
deriving DecidableEq
abbrev BdV := List Ln
def allR : Rg := ([], [])
def ckF (fs : List Int) : Prop := (∀ n ∈ fs, 0 ≤ n ∧ n < 4) ∧ fs.Nodup
open Classical in
/-- What is wrong with an index of these fields (0: nothing). -/
noncomputable def ckI (fs : List Int) : Int := if fs = [] then 1 else if 2 < fs.length then 4 else if ckF fs then 0 else 1
def stV (V : BdV) (id : Int) : Int := if 1 ≤ id ∧ id ≤ V.length then ((V[(id - 1).toNat]?).map Ln.st).getD 0 else 0
open Classical in
/-- Declare: the answer's number and error. -/
noncomputable def deE (V : BdV) (fs : List Int) : Int × Int := if V.length = 6 then (0, 17) else if ckI fs = 0 then (V.length + 1, 0) else (0, ckI fs)
open Classical in
noncomputable def deV (V : BdV) (fs : List Int) (rs : List Rg) : BdV := if V.length = 6 then V else if ckI fs = 0 then V ++ [⟨fs, 1, rs⟩] else V
def drE (V : BdV) (id : Int) : Int := if stV V id = 1 ∨ stV V id = 2 then 0 else 7
def upd (V : BdV) (id : Int) (f : Ln → Ln) : BdV := V.modify (id - 1).toNat f
def drV (V : BdV) (id : Int) (f : Ln → Ln) : BdV := if stV V id = 1 ∨ stV V id = 2 then upd V id f else V
def gone0 (x : Ln) : Ln := ⟨[], 3, []⟩
def goneR (x : Ln) : Ln := ⟨x.fs, 3, x.rs⟩
def rep0 (r : Rg) (x : Ln) : Ln := ⟨x.fs, if mns x.rs r = [] then 2 else 1, mns x.rs r⟩
def repR (r : Rg) (x : Ln) : Ln := ⟨x.fs, if lst (x.rs ++ [r]) = [allR] then 2 else 1, lst (x.rs ++ [r])⟩
def reV (V : BdV) (id : Int) (f : Ln → Ln) : BdV := if stV V id = 1 then upd V id f else V
/-- Report's answer: the index has become ready. -/
def reB (V : BdV) (id : Int) (f : Ln → Ln) : Bool := decide (stV V id = 1 ∧ stV (upd V id f) id = 2)
def ixV (V : BdV) (id : Int) : Option (List Int) := if stV V id = 1 ∨ stV V id = 2 then (V[(id - 1).toNat]?).map Ln.fs else none
def thV (V : BdV) : List (Int × List Int) := (V.zipIdx 1).filterMap fun p => if p.1.st = 1 ∨ p.1.st = 2 then some ((p.2 : Int), p.1.fs) else none
def goV (V : BdV) : List Int := (V.zipIdx 1).filterMap fun p => if p.1.st = 3 then some (p.2 : Int) else none
def lfV (V : BdV) (id : Int) : List Rg := if stV V id = 1 then ((V[(id - 1).toNat]?).map Ln.rs).getD [] else []
def veV (V : BdV) : Int := V.length + (goV V).length
/-- What the implementation keeps. -/
structure LnOk (n : Nat) (x : Ln) : Prop where
  st : x.st = 1 ∨ x.st = 2 ∨ x.st = 3
  one : x.st = 1 → x.rs ≠ []
  no : x.st ≠ 1 → x.rs = []
  gone : x.st = 3 → x.fs = []
  fs : x.st ≠ 3 → ckI x.fs = 0
  canon : Canon x.rs
  len : x.rs.length ≤ n
def BdOk (n : Nat) (V : BdV) : Prop := V.length ≤ 6 ∧ ∀ x ∈ V, LnOk n x
/-- The reference's index beside the implementation's. -/
structure LnRel (x y : Ln) : Prop where
  st : y.st = x.st
  fs : x.st ≠ 3 → y.fs = x.fs
  canon : Canon y.rs
  left : x.st = 1 → ∀ s, inL x.rs s ↔ ¬ inL y.rs s
def BdRel (V M : BdV) : Prop := M.length = V.length ∧ ∀ (i : Nat) (x y : Ln), V[i]? = some x → M[i]? = some y → LnRel x y
theorem ckI_len {fs : List Int} (h : ckI fs = 0) : 1 ≤ fs.length ∧ fs.length ≤ 2 ∧ ckF fs := by
  unfold ckI at h
  split at h
  · omega
  · rename_i h1
    split at h
    · omega
    · split at h
      · rename_i h3
        have := List.length_pos_iff.2 h1
        exact ⟨by omega, by omega, h3⟩
      · omega
theorem canon_all : Canon [allR] := ⟨by simp [allR]; decide, by simp⟩
theorem in_all (s : Txt) : inL [allR] s := ⟨allR, by simp, by simp [hasR, allR]⟩
theorem stV_at {V : BdV} {id : Int} (h1 : 1 ≤ id) (h2 : id ≤ V.length) : stV V id = (V[(id - 1).toNat]'(by omega)).st := by
  unfold stV
  rw [if_pos ⟨h1, h2⟩, List.getElem?_eq_getElem (by omega)]
  rfl
theorem stV_no {V : BdV} {id : Int} (h : ¬ (1 ≤ id ∧ id ≤ V.length)) : stV V id = 0 := if_neg h
theorem stV_in {V : BdV} {id : Int} (h : stV V id ≠ 0) : 1 ≤ id ∧ id ≤ V.length := by
  by_cases hc : 1 ≤ id ∧ id ≤ V.length
  · exact hc
  · exact absurd (stV_no hc) h
theorem stV_upd {V : BdV} {id : Int} (h1 : 1 ≤ id) (h2 : id ≤ V.length) (f : Ln → Ln) : stV (upd V id f) id = (f (V[(id - 1).toNat]'(by omega))).st := by
  have hl : (upd V id f).length = V.length := List.length_modify ..
  rw [stV_at h1 (by rw [hl]; exact h2)]
  unfold upd
  rw [List.getElem_modify, if_pos rfl]
theorem upd_len {V : BdV} {id : Int} {f : Ln → Ln} : (upd V id f).length = V.length := List.length_modify ..
theorem upd_get {V : BdV} {id : Int} {f : Ln → Ln} {i : Nat} (h : i < (upd V id f).length) : (upd V id f)[i] = if (id - 1).toNat = i then f (V[i]'(by rwa [upd_len] at h)) else V[i]'(by rwa [upd_len] at h) := List.getElem_modify ..
theorem upd_set {V : BdV} {id : Int} (h1 : 1 ≤ id) (h2 : id ≤ V.length) (f : Ln → Ln) : upd V id f = V.set (id - 1).toNat (f (V[(id - 1).toNat]'(by omega))) := by
  unfold upd
  refine List.ext_getElem (by rw [List.length_modify, List.length_set]) fun j h3 h4 => ?_
  rw [List.getElem_modify, List.getElem_set]
  split
  · rename_i e; subst e; rfl
  · rfl
theorem Bd_len {V M : BdV} (h : BdRel V M) : M.length = V.length := h.1
theorem Bd_at {V M : BdV} (h : BdRel V M) (i : Nat) (hi : i < V.length) : LnRel V[i] (M[i]'(by rw [Bd_len h]; exact hi)) := h.2 i _ _ (List.getElem?_eq_getElem hi) (List.getElem?_eq_getElem (by rw [Bd_len h]; exact hi))
theorem Bd_mk {V M : BdV} (hl : M.length = V.length) (h : ∀ i (h1 : i < V.length) (h2 : i < M.length), LnRel V[i] M[i]) : BdRel V M := ⟨hl, fun i x y hx hy => by
  obtain ⟨h1, rfl⟩ := List.getElem?_eq_some_iff.1 hx
  obtain ⟨h2, rfl⟩ := List.getElem?_eq_some_iff.1 hy
  exact h i h1 h2⟩
theorem st_rel {V M : BdV} (h : BdRel V M) (id : Int) : stV M id = stV V id := by
  have hl := Bd_len h
  by_cases hc : 1 ≤ id ∧ id ≤ V.length
  · rw [stV_at hc.1 hc.2, stV_at hc.1 (by rw [hl]; exact hc.2)]
    exact (Bd_at h _ (by omega)).st
  · rw [stV_no hc, stV_no (by rw [hl]; exact hc)]
theorem de_rel {V M : BdV} (h : BdRel V M) (fs : List Int) : deE M fs = deE V fs ∧ BdRel (deV V fs [allR]) (deV M fs []) := by
  have hl := Bd_len h
  refine ⟨by unfold deE; rw [hl], ?_⟩
  unfold deV
  rw [hl]
  split
  · exact h
  · split
    · refine Bd_mk (by rw [List.length_append, List.length_append, hl]; rfl) fun i h1 h2 => ?_
      rw [List.getElem_append, List.getElem_append]
      by_cases hi : i < V.length
      · rw [dif_pos hi, dif_pos (by omega)]
        exact Bd_at h i hi
      · rw [List.length_append, List.length_cons, List.length_nil] at h1
        rw [dif_neg hi, dif_neg (by omega)]
        have e1 : i - V.length = 0 := by omega
        have e2 : i - M.length = 0 := by omega
        simp only [e1, e2, List.getElem_cons_zero]
        exact ⟨rfl, fun _ => rfl, ⟨by simp, by simp⟩, fun _ s => ⟨fun _ e => inL_nil s e, fun _ => in_all s⟩⟩
    · exact h
theorem de_ok {n : Nat} {V : BdV} (h : BdOk n V) (hn : 1 ≤ n) (fs : List Int) : BdOk n (deV V fs [allR]) := by
  unfold deV
  split
  · exact h
  · split
    · rename_i h6 hc
      refine ⟨by have := h.1; rw [List.length_append, List.length_cons, List.length_nil]; omega, fun x hx => ?_⟩
      rcases List.mem_append.1 hx with hx | hx
      · exact h.2 x hx
      · simp only [List.mem_cons, List.not_mem_nil, or_false] at hx
        subst hx
        exact ⟨.inl rfl, fun _ => by simp, fun e => absurd rfl e, fun e => (by cases e), fun _ => hc, canon_all, hn⟩
    · exact h
theorem upd_rel {V M : BdV} (h : BdRel V M) {id : Int} {f g : Ln → Ln} (hf : ∀ x y, x ∈ V → LnRel x y → LnRel (f x) (g y)) : BdRel (upd V id f) (upd M id g) := by
  have hl := Bd_len h
  refine Bd_mk (by rw [upd_len, upd_len, hl]) fun i h1 h2 => ?_
  have h1' : i < V.length := by rwa [upd_len] at h1
  rw [upd_get, upd_get]
  split
  · exact hf _ _ (List.getElem_mem h1') (Bd_at h i h1')
  · exact Bd_at h i h1'
theorem dr_rel {V M : BdV} (h : BdRel V M) (id : Int) : drE M id = drE V id ∧ BdRel (drV V id gone0) (drV M id goneR) := by
  refine ⟨by unfold drE; rw [st_rel h], ?_⟩
  unfold drV
  rw [st_rel h]
  split
  · exact upd_rel h fun x y _ hxy => ⟨rfl, fun e => absurd rfl e, hxy.canon, fun e => (by cases e)⟩
  · exact h
theorem upd_ok {n m : Nat} {V : BdV} (h : BdOk n V) (hm : n ≤ m) {id : Int} {f : Ln → Ln} (h1 : 1 ≤ id) (h2 : id ≤ V.length) (hf : ∀ x ∈ V, x.st = stV V id → LnOk n x → LnOk m (f x)) : BdOk m (upd V id f) := by
  refine ⟨by rw [upd_len]; exact h.1, fun x hx => ?_⟩
  obtain ⟨i, hi, rfl⟩ := List.getElem_of_mem hx
  have hi' : i < V.length := by rwa [upd_len] at hi
  rw [upd_get]
  split
  · rename_i e
    subst e
    exact hf _ (List.getElem_mem hi') (by rw [stV_at h1 h2]) (h.2 _ (List.getElem_mem hi'))
  · have := h.2 _ (List.getElem_mem hi')
    exact ⟨this.1, this.2, this.3, this.4, this.5, this.6, Nat.le_trans this.7 hm⟩
theorem dr_ok {n : Nat} {V : BdV} (h : BdOk n V) (id : Int) : BdOk n (drV V id gone0) := by
  unfold drV
  split
  · rename_i hs
    obtain ⟨h1, h2⟩ := stV_in (V := V) (id := id) (by omega)
    exact upd_ok h (Nat.le_refl _) h1 h2 fun x _ _ _ => ⟨.inr (.inr rfl), fun e => (by cases e), fun _ => rfl, fun _ => rfl, fun e => absurd rfl e, ⟨by simp [gone0], by simp [gone0]⟩, Nat.zero_le _⟩
  · exact h
theorem mns_nil_iff {l full : List Rg} {r : Rg} (hl : ∀ s, inL l s ↔ ¬ inL full s) (hc : Canon full) : mns l r = [] ↔ lst (full ++ [r]) = [allR] := by
  have h1 := mns_spec l r
  have h2 := lst_spec (full ++ [r])
  have key : ∀ s, inL (mns l r) s ↔ ¬ inL (lst (full ++ [r])) s := fun s => by
    rw [h1.2 s, h2.2 s, inL_append, hl s, inL_cons]
    have := inL_nil s
    grind
  constructor
  · intro e
    refine canon_ext _ _ h2.1 canon_all fun s => ⟨fun _ => in_all s, fun _ => ?_⟩
    refine Classical.byContradiction fun hn => ?_
    have := (key s).2 hn
    rw [e] at this
    exact inL_nil s this
  · intro e
    refine canon_ext _ _ h1.1 ⟨by simp, by simp⟩ fun s => ⟨fun h => ?_, fun h => absurd h (inL_nil s)⟩
    have := (key s).1 h
    rw [e] at this
    exact absurd (in_all s) this
theorem rep_left {l full : List Rg} {r : Rg} (hl : ∀ s, inL l s ↔ ¬ inL full s) : ∀ s, inL (mns l r) s ↔ ¬ inL (lst (full ++ [r])) s := fun s => by
  rw [(mns_spec l r).2 s, (lst_spec (full ++ [r])).2 s, inL_append, hl s, inL_cons]
  have := inL_nil s
  grind
theorem re_rel {V M : BdV} (h : BdRel V M) (id : Int) (r : Rg) : reB M id (repR r) = reB V id (rep0 r) ∧ BdRel (reV V id (rep0 r)) (reV M id (repR r)) := by
  have hst := st_rel h id
  by_cases hs : stV V id = 1
  · obtain ⟨h1, h2⟩ := stV_in (V := V) (id := id) (by omega)
    have hl := Bd_len h
    have hxy := Bd_at h (id - 1).toNat (by omega)
    have hst1 : (V[(id - 1).toNat]'(by omega)).st = 1 := by rw [← stV_at h1 h2]; exact hs
    have hiff := mns_nil_iff (r := r) (hxy.left hst1) hxy.canon
    refine ⟨?_, ?_⟩
    · unfold reB
      rw [stV_upd h1 h2, stV_upd h1 (by omega), hst, hs, decide_eq_decide]
      simp only [true_and]
      show (if lst _ = [allR] then (2 : Int) else 1) = 2 ↔ (if mns _ r = [] then (2 : Int) else 1) = 2
      by_cases hm : mns (V[(id - 1).toNat]'(by omega)).rs r = []
      · rw [if_pos hm, if_pos (hiff.1 hm)]
      · rw [if_neg hm, if_neg (fun e => hm (hiff.2 e))]
    · unfold reV
      rw [hst, if_pos hs, if_pos hs]
      rw [upd_set h1 h2, upd_set h1 (by omega)]
      refine Bd_mk (by rw [List.length_set, List.length_set, hl]) fun i hi1 hi2 => ?_
      rw [List.length_set] at hi1 hi2
      rw [List.getElem_set, List.getElem_set]
      split
      · refine ⟨?_, fun e => hxy.fs (by omega), (lst_spec _).1, fun _ => rep_left (hxy.left hst1)⟩
        show (if lst _ = [allR] then (2 : Int) else 1) = (if mns _ r = [] then (2 : Int) else 1)
        by_cases hm : mns (V[(id - 1).toNat]'(by omega)).rs r = []
        · rw [if_pos hm, if_pos (hiff.1 hm)]
        · rw [if_neg hm, if_neg (fun e => hm (hiff.2 e))]
      · exact Bd_at h i hi1
  · refine ⟨?_, ?_⟩
    · unfold reB
      rw [hst, decide_eq_false (fun e => hs e.1), decide_eq_false (fun e => hs e.1)]
    · unfold reV
      rw [hst, if_neg hs, if_neg hs]
      exact h
theorem re_ok {n : Nat} {V : BdV} (h : BdOk n V) (id : Int) (r : Rg) : BdOk (n + 1) (reV V id (rep0 r)) := by
  unfold reV
  split
  · rename_i hs
    obtain ⟨h1, h2⟩ := stV_in (V := V) (id := id) (by omega)
    refine upd_ok h (Nat.le_succ n) h1 h2 fun x _ hx ok => ?_
    have hml := mns_len ok.canon r
    have hf := ok.fs (by omega)
    have hlen := ok.len
    unfold rep0
    split
    · rename_i hm
      refine ⟨.inr (.inl rfl), fun e => (by cases e), fun _ => hm, fun e => (by cases e), fun _ => hf, by rw [hm]; exact ⟨by simp, by simp⟩, by rw [hm]; simp⟩
    · rename_i hm
      exact ⟨.inl rfl, fun _ => hm, fun e => absurd rfl e, fun e => (by cases e), fun _ => hf, (mns_spec _ _).1, by simp only; omega⟩
  · exact ⟨h.1, fun x hx => by have := h.2 x hx; exact ⟨this.1, this.2, this.3, this.4, this.5, this.6, Nat.le_succ_of_le this.7⟩⟩
theorem foldl_mns {full : List Rg} : ∀ (l : List Rg), Canon l → Canon (full.foldl mns l) ∧ ∀ s, inL (full.foldl mns l) s ↔ inL l s ∧ ¬ inL full s := by
  induction full with
  | nil => intro l h; exact ⟨h, fun s => ⟨fun e => ⟨e, inL_nil s⟩, fun e => e.1⟩⟩
  | cons r full ih =>
    intro l h
    have h1 := mns_spec l r
    obtain ⟨h2, h3⟩ := ih (mns l r) h1.1
    refine ⟨h2, fun s => ?_⟩
    rw [List.foldl_cons, h3 s, h1.2 s, inL_cons]
    grind
/-- What the reference tells as left. -/
def lfR (M : BdV) (id : Int) : List Rg := if stV M id = 1 then (((M[(id - 1).toNat]?).map Ln.rs).getD []).foldl mns [allR] else []
theorem lf_rel {n : Nat} {V M : BdV} (h : BdRel V M) (hok : BdOk n V) (id : Int) : lfR M id = lfV V id := by
  unfold lfR lfV
  rw [st_rel h]
  split
  · rename_i hs
    obtain ⟨h1, h2⟩ := stV_in (V := V) (id := id) (by omega)
    have hl := Bd_len h
    have hxy := Bd_at h (id - 1).toNat (by omega)
    have hst1 : (V[(id - 1).toNat]'(by omega)).st = 1 := by rw [← stV_at h1 h2]; exact hs
    rw [List.getElem?_eq_getElem (by omega), List.getElem?_eq_getElem (by omega)]
    simp only [Option.map_some, Option.getD_some]
    obtain ⟨q1, q2⟩ := foldl_mns (full := (M[(id - 1).toNat]'(by omega)).rs) [allR] canon_all
    refine canon_ext _ _ q1 (hok.2 _ (List.getElem_mem (by omega))).canon fun s => ?_
    rw [q2 s, hxy.left hst1 s]
    exact ⟨fun e => e.2, fun e => ⟨in_all s, e⟩⟩
  · rfl
theorem zip_rel {β : Type} (f : Ln × Nat → Option β) (hf : ∀ x y k, LnRel x y → f (y, k) = f (x, k)) : ∀ {V M : BdV}, BdRel V M → ∀ k, (M.zipIdx k).filterMap f = (V.zipIdx k).filterMap f
  | [], [], _, k => rfl
  | [], y :: M, h, k => absurd h.1 (by simp)
  | x :: V, [], h, k => absurd h.1 (by simp)
  | x :: V, y :: M, h, k => by
    have hxy := h.2 0 x y rfl rfl
    have ht : BdRel V M := ⟨by simpa using h.1, fun i a b ha hb => h.2 (i + 1) a b (by simpa using ha) (by simpa using hb)⟩
    rw [List.zipIdx_cons, List.zipIdx_cons, List.filterMap_cons, List.filterMap_cons, hf _ _ k hxy, zip_rel f hf ht (k + 1)]
theorem th_rel {V M : BdV} (h : BdRel V M) : thV M = thV V := by
  unfold thV
  refine zip_rel _ (fun x y k hxy => ?_) h 1
  simp only [hxy.st]
  split
  · rw [hxy.fs (by omega)]
  · rfl
theorem go_rel {V M : BdV} (h : BdRel V M) : goV M = goV V := by
  unfold goV
  exact zip_rel _ (fun x y k hxy => by simp only [hxy.st]) h 1
theorem ix_rel {V M : BdV} (h : BdRel V M) (id : Int) : ixV M id = ixV V id := by
  unfold ixV
  rw [st_rel h]
  split
  · rename_i hs
    obtain ⟨h1, h2⟩ := stV_in (V := V) (id := id) (by omega)
    have hl := Bd_len h
    have hxy := Bd_at h (id - 1).toNat (by omega)
    have hst1 := stV_at h1 h2
    rw [List.getElem?_eq_getElem (by omega), List.getElem?_eq_getElem (by omega), Option.map_some, Option.map_some, hxy.fs (by omega)]
  · rfl
end Go.Proofs.Ytcfncjejpjjhdaa.E
namespace Go.Proofs.Ytcfncjejpjjhdaa.E
open Go Go.RowKit
set_option linter.unusedSimpArgs false
set_option linter.unusedVariables false

theorem undIs : Try.prog.underlying 23 = some (.slice 3) := by kernel_rfl
theorem undBp : Try.prog.underlying 26 = some (.pointer 65) := by kernel_rfl
theorem undLs : Try.prog.underlying 63 = some (.slice 69) := by kernel_rfl
theorem undLp : Try.prog.underlying 70 = some (.pointer 69) := by kernel_rfl
theorem undRs : Try.prog.underlying 40 = some (.slice 78) := by kernel_rfl
theorem oneI : oneB Try.prog 3 = true := by kernel_rfl
theorem szI : (Try.prog.info? 3).map (·.size) = some 1 := by kernel_rfl
theorem oneIs : oneB Try.prog 23 = true := by kernel_rfl
theorem oneLs : oneB Try.prog 63 = true := by kernel_rfl
theorem oneRls : oneB Try.prog 40 = true := by kernel_rfl
theorem oneRgs : oneB Try.prog 22 = true := by kernel_rfl
theorem szRgs : (Try.prog.info? 22).map (·.size) = some 1 := by kernel_rfl
theorem szLs : (Try.prog.info? 63).map (·.size) = some 1 := by kernel_rfl
theorem szRls : (Try.prog.info? 40).map (·.size) = some 1 := by kernel_rfl
theorem szL : (Try.prog.info? 69).map (·.size) = some 3 := by kernel_rfl
theorem szRl : (Try.prog.info? 78).map (·.size) = some 3 := by kernel_rfl
theorem infL : (Try.prog.info? 69).map (fun i => (i.zero, i.size, i.bytes)) = some (some (.agg #[.slice none 0 0, .int .i64 0, .slice none 0 0]), 3, 56) := by kernel_rfl
theorem infRl : (Try.prog.info? 78).map (fun i => (i.zero, i.size, i.bytes)) = some (some (.agg #[.slice none 0 0, .int .i64 0, .slice none 0 0]), 3, 56) := by kernel_rfl
theorem infI : (Try.prog.info? 3).map (fun i => (i.zero, i.size, i.bytes)) = some (some (.int .i64 0), 1, 8) := by kernel_rfl
theorem l0 : fofs Try.prog 69 0 = some (0, 1) := by kernel_rfl
theorem l1 : fofs Try.prog 69 1 = some (1, 1) := by kernel_rfl
theorem l2 : fofs Try.prog 69 2 = some (2, 1) := by kernel_rfl
theorem m0 : fofs Try.prog 78 0 = some (0, 1) := by kernel_rfl
theorem m1 : fofs Try.prog 78 1 = some (1, 1) := by kernel_rfl
theorem m2 : fofs Try.prog 78 2 = some (2, 1) := by kernel_rfl
theorem b0 : fofs Try.prog 65 0 = some (0, 1) := by kernel_rfl
theorem c0 : fofs Try.prog 42 0 = some (0, 1) := by kernel_rfl
theorem c1 : fofs Try.prog 42 1 = some (1, 1) := by kernel_rfl
abbrev iV (l : List Int) : List Value := l.map (Value.int .i64)
section
variable {P : Program} {K : Value → World → Prop} {w : World}
/-- A slice literal of one-cell values. -/
theorem bsO {t e : TypeId} {n : Nat} {parts : Array (Nat × Value)} {xs : List Value} (hb : (Instr.buildSlice t n parts).run P w = .ok (.slice (some ⟨w.heap.size, 0, none⟩) n n) (w.alloc (.cells xs.toArray e))) (hl : xs.length = n) (hn : n ≤ 1000)
    (k : ∀ v' w', Own e w' v' xs → Fresh w.heap.size v' → Below w.heap.size w w' → K v' w') : LiftP P (Instr.buildSlice t n parts) K w := by
  subst hl
  exact lift hb (k _ _ (Own.new w e xs (by omega)) (Fresh.new (Nat.le_refl _) _ _) ((Below.refl _ _).alloc (Nat.le_refl _) _))
/-- One element of a row of structs is written whole, its room known. -/
theorem stW {s : Nat} {e t : TypeId} {g n c : Nat} {cs : List Value} {cells : Array Value} (h : w.ownsRow 0 e s (.slice (some ⟨g, 0, none⟩) n c) n cs) (i : Nat) (hi : i < n) (hs : cells.size = s) (hinfo : (P.info? t).map (·.size) = some s) (h1 : cells.all (·.oneCell') = true)
    (k : ∀ w', w'.ownsRow 0 e s (.slice (some ⟨g, 0, none⟩) n c) n (cs.take (i * s) ++ cells.toList ++ cs.drop (i * s + s)) → Turns (fun j => j = g) w w' → K undef w') : LiftU P (Instr.storeAt t (.pointer (some ⟨g, i * s, none⟩)) (.agg cells)) K w := by
  obtain ⟨hl, h⟩ := h
  rcases h with ⟨h, _⟩ | ⟨g', c', cur, he, hz, hb, h2, h3, h4, h5⟩
  · cases h
  cases he
  have hle : i * s + s ≤ n * s := by
    have := Nat.mul_le_mul_right s (show i + 1 ≤ n from hi)
    rw [Nat.succ_mul] at this; omega
  have hcs : n * s ≤ cur.size := by rw [h4]; exact Nat.mul_le_mul_right s h2
  refine stM hb (by rw [hinfo, hs]) (by omega) h1 (k _ ⟨?_, .inr ⟨g, c, _, rfl, hz, (show Blk w g e cur from hb).row _, h2, h3, ?_, ?_⟩⟩ (Turns.setRow (F := fun j => j = g) (Turns.refl _ w) (.inl rfl) _))
  · simp only [List.length_append, List.length_take, List.length_drop, Array.length_toList, hl, hs]; omega
  · simp only [List.size_toArray, List.length_append, List.length_take, List.length_drop, Array.length_toList, hs]; omega
  · rw [List.toList_toArray, hs, take_mid (n * s) (i * s) s cur.toList cells.toList (by simpa using hs) hle (by simpa using hcs), h5]
end
structure Lm where
  fv : Value
  rv : Value
  x : Ln
def lmF (m : Lm) : List Value := [m.fv, .int .i64 m.x.st, m.rv]
theorem lmF_len (m : Lm) : (lmF m).length = 3 := rfl
/-- An index's fields and ranges are never turned again: colour 999. -/
structure LmAt (c : Nat → Nat) (w : World) (m : Lm) : Prop where
  fo : OwnR 1 3 w m.fv m.x.fs.length (iV m.x.fs)
  fh : InC c 999 m.fv
  ro : OwnR 2 32 w m.rv m.x.rs.length (m.x.rs.flatMap rgF)
  rh : InC c 999 m.rv
structure LnsAt (tl : TypeId) (hu : Nat) (c : Nat → Nat) (w : World) (vL : Value) (M : List Lm) : Prop where
  hh : 0 < hu ∧ hu < 999
  row : w.ownsRow 0 tl 3 vL M.length (M.flatMap lmF)
  hue : InC c hu vL
  el : ∀ m ∈ M, LmAt c w m
structure BdAt (hu : Nat) (c : Nat → Nat) (w : World) (g : Nat) (vL : Value) (M : List Lm) : Prop extends LnsAt 69 hu c w vL M where
  hug : c g = hu
  blk : Blk w g 65 #[vL]
structure RbAt (hu : Nat) (c : Nat → Nat) (w : World) (g : Nat) (vL : Value) (n : Int) (M : List Lm) : Prop extends LnsAt 78 hu c w vL M where
  hug : c g = hu
  blk : Blk w g 42 #[vL, .int .i64 n]
def absB (M : List Lm) : BdV := M.map Lm.x
def BdS (hu : Nat) (c : Nat → Nat) (w : World) (g : Nat) (V : BdV) : Prop := ∃ vL M, BdAt hu c w g vL M ∧ absB M = V
def RbS (hu : Nat) (c : Nat → Nat) (w : World) (g : Nat) (n : Int) (V : BdV) : Prop := ∃ vL M, RbAt hu c w g vL n M ∧ absB M = V
def LeftD (hu : Nat) (c : Nat → Nat) (w : World) (g : Nat) (V : BdV) (w' : World) : Prop := ∃ c', (∀ k, k < w.heap.size → c' k = c k) ∧ BdS hu c' w' g V ∧ Turns (fun k => c k = hu) w w'
def LeftE (hu : Nat) (c : Nat → Nat) (w : World) (g : Nat) (n : Int) (V : BdV) (w' : World) : Prop := ∃ c', (∀ k, k < w.heap.size → c' k = c k) ∧ RbS hu c' w' g n V ∧ Turns (fun k => c k = hu) w w'
section
variable {tl : TypeId} {hu : Nat} {c c' : Nat → Nat} {w w' : World} {g : Nat} {vL : Value} {n : Int} {M : List Lm} {m : Lm} {V : BdV}
theorem own_OwnR1 {v : Value} {l : List Int} (h : Own 3 w v (iV l)) : OwnR 1 3 w v l.length (iV l) := by
  have h2 := OwnR.of_own h
  rwa [List.length_map] at h2
theorem ownR_rd1 {e : TypeId} {v : Value} {xs : List Value} {k : Nat} (h : OwnR 1 e w v k xs) : Rd w v xs := by
  obtain ⟨A, cc, rfl, h1, h2⟩ := h.slice
  have hl : xs.length = k := by have := h.1; omega
  refine ⟨A, cc, by rw [hl], by omega, by simp only [maxLen] at h2; omega, fun i u hiu => ?_⟩
  have hi := (List.getElem?_eq_some_iff.1 hiu).1
  obtain ⟨g, u', rfl, hu, hc, _⟩ := h.at i (by omega)
  refine ⟨_, rfl, ?_⟩
  rw [add0, Nat.zero_add, hc, ← hu, hiu]
theorem LmAt.frd (h : LmAt c w m) : Rd w m.fv (iV m.x.fs) := ownR_rd1 h.fo
theorem LmAt.rrd (h : LmAt c w m) : RgR w [m.rv] m.x.rs := h.ro.rd rgF_len fun _ _ => rfl
theorem LmAt.turns {G : Nat → Prop} (h : LmAt c w m) (hT : Turns G w w') (hG : ∀ k, G k → c k ≠ 999) : LmAt c w' m :=
  ⟨h.fo.turns hT fun k hk e => hG k e (h.fh k hk), h.fh, h.ro.turns hT fun k hk e => hG k e (h.rh k hk), h.rh⟩
theorem LmAt.below (h : LmAt c w m) (hb : Below w.heap.size w w') : LmAt c w' m := h.turns (G := fun _ => False) (Turns.of_below hb) fun _ h => h.elim
theorem LmAt.re (h : LmAt c w m) (hc : ∀ k, k < w.heap.size → c' k = c k) : LmAt c' w m :=
  ⟨h.fo, fun k hk => by rw [hc k (h.fo.lt hk)]; exact h.fh k hk, h.ro, fun k hk => by rw [hc k (h.ro.lt hk)]; exact h.rh k hk⟩
theorem LmAt.fone (h : LmAt c w m) : m.fv.oneCell' = true := by obtain ⟨A, n, e, _⟩ := h.fo.slice; rw [e]; rfl
theorem LmAt.rone (h : LmAt c w m) : m.rv.oneCell' = true := by obtain ⟨A, n, e, _⟩ := h.ro.slice; rw [e]; rfl
theorem lmF_one (h : LmAt c w m) : ∀ u ∈ lmF m, u.oneCell' = true := by
  intro u hu
  simp only [lmF, List.mem_cons, List.not_mem_nil, or_false] at hu
  rcases hu with rfl | rfl | rfl
  · exact h.fone
  · rfl
  · exact h.rone
theorem LnsAt.turns {G : Nat → Prop} (h : LnsAt tl hu c w vL M) (hT : Turns G w w') (hG : ∀ k, G k → c k ≠ hu ∧ c k ≠ 999) : LnsAt tl hu c w' vL M :=
  ⟨h.hh, ownsRow_turns h.row hT fun k hk e => (hG k e).1 (h.hue k hk), h.hue, fun x hx => (h.el x hx).turns hT fun k hk => (hG k hk).2⟩
theorem LnsAt.re (h : LnsAt tl hu c w vL M) (hc : ∀ k, k < w.heap.size → c' k = c k) : LnsAt tl hu c' w vL M :=
  ⟨h.hh, h.row, fun k hk => by rw [hc k (ownsRow_lt h.row hk)]; exact h.hue k hk, fun x hx => (h.el x hx).re hc⟩
theorem LnsAt.rd (h : LnsAt tl hu c w vL M) : rRow 3 (fun _ us x => us = lmF x) w [vL] M := OwnR.rd (r := fun _ us x => us = lmF x) (OwnR.of_own h.row) lmF_len (fun _ _ => rfl)
theorem LnsAt.slice (h : LnsAt tl hu c w vL M) : ∃ A cL, vL = .slice A M.length cL ∧ M.length ≤ 9223372036854775807 := by
  obtain ⟨A, cL, e, h1, h2⟩ := (OwnR.of_own h.row).slice
  exact ⟨A, cL, e, by simp only [maxLen] at h2; omega⟩
theorem LnsAt.at (h : LnsAt tl hu c w vL M) (i : Nat) (hi : i < M.length) : ∃ gL cL, vL = .slice (some ⟨gL, 0, none⟩) M.length cL ∧ w.cell? ⟨gL, i * 3 + 0, none⟩ = some M[i].fv ∧ w.cell? ⟨gL, i * 3 + 1, none⟩ = some (.int .i64 M[i].x.st) ∧ w.cell? ⟨gL, i * 3 + 2, none⟩ = some M[i].rv := by
  obtain ⟨gL, cL, e, hc⟩ := rowAt lmF_len (OwnR.of_own h.row) i hi (by decide)
  exact ⟨gL, cL, e, hc 0 _ rfl, hc 1 _ rfl, hc 2 _ rfl⟩
theorem BdAt.turns {G : Nat → Prop} (h : BdAt hu c w g vL M) (hT : Turns G w w') (hG : ∀ k, G k → c k ≠ hu ∧ c k ≠ 999) : BdAt hu c w' g vL M :=
  ⟨h.toLnsAt.turns hT hG, h.hug, h.blk.turns hT fun e => (hG g e).1 h.hug⟩
theorem BdAt.below (h : BdAt hu c w g vL M) (hb : Below w.heap.size w w') : BdAt hu c w' g vL M := h.turns (G := fun _ => False) (Turns.of_below hb) fun _ h => h.elim
theorem BdAt.re (h : BdAt hu c w g vL M) (hc : ∀ k, k < w.heap.size → c' k = c k) : BdAt hu c' w g vL M := ⟨h.toLnsAt.re hc, (hc g h.blk.lt).trans h.hug, h.blk⟩
theorem RbAt.turns {G : Nat → Prop} (h : RbAt hu c w g vL n M) (hT : Turns G w w') (hG : ∀ k, G k → c k ≠ hu ∧ c k ≠ 999) : RbAt hu c w' g vL n M :=
  ⟨h.toLnsAt.turns hT hG, h.hug, h.blk.turns hT fun e => (hG g e).1 h.hug⟩
theorem RbAt.below (h : RbAt hu c w g vL n M) (hb : Below w.heap.size w w') : RbAt hu c w' g vL n M := h.turns (G := fun _ => False) (Turns.of_below hb) fun _ h => h.elim
theorem RbAt.re (h : RbAt hu c w g vL n M) (hc : ∀ k, k < w.heap.size → c' k = c k) : RbAt hu c' w g vL n M := ⟨h.toLnsAt.re hc, (hc g h.blk.lt).trans h.hug, h.blk⟩
theorem BdS.turns {G : Nat → Prop} (h : BdS hu c w g V) (hT : Turns G w w') (hG : ∀ k, G k → c k ≠ hu ∧ c k ≠ 999) : BdS hu c w' g V := by obtain ⟨vL, M, h, q⟩ := h; exact ⟨vL, M, h.turns hT hG, q⟩
theorem BdS.below (h : BdS hu c w g V) (hb : Below w.heap.size w w') : BdS hu c w' g V := by obtain ⟨vL, M, h, q⟩ := h; exact ⟨vL, M, h.below hb, q⟩
theorem BdS.re (h : BdS hu c w g V) (hc : ∀ k, k < w.heap.size → c' k = c k) : BdS hu c' w g V := by obtain ⟨vL, M, h, q⟩ := h; exact ⟨vL, M, h.re hc, q⟩
theorem RbS.turns {G : Nat → Prop} (h : RbS hu c w g n V) (hT : Turns G w w') (hG : ∀ k, G k → c k ≠ hu ∧ c k ≠ 999) : RbS hu c w' g n V := by obtain ⟨vL, M, h, q⟩ := h; exact ⟨vL, M, h.turns hT hG, q⟩
theorem RbS.below (h : RbS hu c w g n V) (hb : Below w.heap.size w w') : RbS hu c w' g n V := by obtain ⟨vL, M, h, q⟩ := h; exact ⟨vL, M, h.below hb, q⟩
theorem RbS.re (h : RbS hu c w g n V) (hc : ∀ k, k < w.heap.size → c' k = c k) : RbS hu c' w g n V := by obtain ⟨vL, M, h, q⟩ := h; exact ⟨vL, M, h.re hc, q⟩
theorem absB_len : (absB M).length = M.length := List.length_map _
theorem absB_st (i : Nat) (hi : i < M.length) {id : Int} (hid : id = i + 1) : stV (absB M) id = M[i].x.st := by
  rw [stV_at (by omega) (by rw [absB_len]; omega)]
  unfold absB
  rw [List.getElem_map]
  have : (id - 1).toNat = i := by omega
  simp only [this]
theorem LeftD.below (h : LeftD hu c w g V w') {w'' : World} (hb : Below w'.heap.size w' w'') : LeftD hu c w g V w'' := by
  obtain ⟨c1, h1, hB, hT⟩ := h
  exact ⟨c1, h1, hB.below hb, hT.then_below hb⟩
theorem LeftE.below (h : LeftE hu c w g n V w') {w'' : World} (hb : Below w'.heap.size w' w'') : LeftE hu c w g n V w'' := by
  obtain ⟨c1, h1, hB, hT⟩ := h
  exact ⟨c1, h1, hB.below hb, hT.then_below hb⟩
end
theorem Index68 (v : Value) (ss : List Int) (n : Int) (w : World) (hv : Rd w v (iV ss)) : CallP Try.prog 68 #[v, .int .i64 n] (fun r w' => w = w' ∧ ∃ k : Int, r = .int .i64 k ∧ (0 ≤ k ↔ n ∈ ss)) w := by
  obtain ⟨A, c, rfl, hc, hm⟩ := hv.slice
  have hlen : (iV ss).length = ss.length := List.length_map _
  rw [hlen] at hv ⊢
  refine ⟨S68.calls _ _ _ _ ?_⟩
  unfold S68
  refine ln undIs ?_
  refine LoopP.inv1 (fun iv w' => ∃ k : Nat, k ≤ ss.length ∧ iv = .int .i64 k ∧ (∀ x ∈ ss.take k, x ≠ n) ∧ w = w') (fun iv _ => ss.length - (intOf iv).toNat) ⟨0, by omega, rfl, by simp, rfl⟩ ?_
  rintro _ _ ⟨k, hk, rfl, hno, rfl⟩ J hJ
  dsimp only [List.headD_cons, List.tail_cons]
  refine bi_lss_c (fun h => ?_) (fun h => ?_)
  · have hk' : k < ss.length := by omega
    obtain ⟨a, rfl, hca⟩ := Rd.atI hv k hk'
    (repeat with_reducible first|refine z_a ?_|refine z_b ?_|refine z_c ?_|refine z_d ?_|refine z_e ?_|refine z_f ?_|refine z_g ?_|refine z_h ?_|refine z_i ?_|refine z_j ?_|refine z_k ?_|refine z_l ?_|refine z_m (by omega) ?_|refine z_n (by omega) ?_|refine z_o (by omega) ?_|refine z_p (by omega) ?_|refine z_q (by omega) ?_|refine z_r (by omega) ?_|refine z_s (by omega) ?_|refine z_t (by omega) ?_|refine z_u (by omega) ?_|refine z_v (by omega) ?_|refine z_w (by omega) ?_|refine z_x (by omega) ?_|refine z_y (by omega) ?_|refine z_z (by omega) ?_|refine z_A ?_|refine z_B ?_|refine z_C ?_|refine z_D ?_|refine z_E ?_|refine z_F ?_|refine z_G ?_|refine z_H ?_|refine z_I ?_)
    refine ix1 undIs szI hk' ?_
    refine ld oneI hca ?_
    refine bi_eql_c (fun h1 => ?_) (fun h1 => ?_)
    · (repeat with_reducible first|refine z_a ?_|refine z_b ?_|refine z_c ?_|refine z_d ?_|refine z_e ?_|refine z_f ?_|refine z_g ?_|refine z_h ?_|refine z_i ?_|refine z_j ?_|refine z_k ?_|refine z_l ?_|refine z_m (by omega) ?_|refine z_n (by omega) ?_|refine z_o (by omega) ?_|refine z_p (by omega) ?_|refine z_q (by omega) ?_|refine z_r (by omega) ?_|refine z_s (by omega) ?_|refine z_t (by omega) ?_|refine z_u (by omega) ?_|refine z_v (by omega) ?_|refine z_w (by omega) ?_|refine z_x (by omega) ?_|refine z_y (by omega) ?_|refine z_z (by omega) ?_|refine z_A ?_|refine z_B ?_|refine z_C ?_|refine z_D ?_|refine z_E ?_|refine z_F ?_|refine z_G ?_|refine z_H ?_|refine z_I ?_)
      exact ⟨rfl, k, rfl, ⟨fun _ => by rw [h1]; exact List.getElem_mem hk', fun _ => by omega⟩⟩
    · (repeat with_reducible first|refine z_a ?_|refine z_b ?_|refine z_c ?_|refine z_d ?_|refine z_e ?_|refine z_f ?_|refine z_g ?_|refine z_h ?_|refine z_i ?_|refine z_j ?_|refine z_k ?_|refine z_l ?_|refine z_m (by omega) ?_|refine z_n (by omega) ?_|refine z_o (by omega) ?_|refine z_p (by omega) ?_|refine z_q (by omega) ?_|refine z_r (by omega) ?_|refine z_s (by omega) ?_|refine z_t (by omega) ?_|refine z_u (by omega) ?_|refine z_v (by omega) ?_|refine z_w (by omega) ?_|refine z_x (by omega) ?_|refine z_y (by omega) ?_|refine z_z (by omega) ?_|refine z_A ?_|refine z_B ?_|refine z_C ?_|refine z_D ?_|refine z_E ?_|refine z_F ?_|refine z_G ?_|refine z_H ?_|refine z_I ?_)
      refine hJ _ _ ⟨k + 1, by omega, by simp, fun x hx => ?_, rfl⟩ (by simp [intOf]; omega)
      rw [List.take_succ_eq_append_getElem hk'] at hx
      rcases List.mem_append.1 hx with hx | hx
      · exact hno x hx
      · simp only [List.mem_cons, List.not_mem_nil, or_false] at hx
        rw [hx]; exact fun e => h1 e.symm
  · (repeat with_reducible first|refine z_a ?_|refine z_b ?_|refine z_c ?_|refine z_d ?_|refine z_e ?_|refine z_f ?_|refine z_g ?_|refine z_h ?_|refine z_i ?_|refine z_j ?_|refine z_k ?_|refine z_l ?_|refine z_m (by omega) ?_|refine z_n (by omega) ?_|refine z_o (by omega) ?_|refine z_p (by omega) ?_|refine z_q (by omega) ?_|refine z_r (by omega) ?_|refine z_s (by omega) ?_|refine z_t (by omega) ?_|refine z_u (by omega) ?_|refine z_v (by omega) ?_|refine z_w (by omega) ?_|refine z_x (by omega) ?_|refine z_y (by omega) ?_|refine z_z (by omega) ?_|refine z_A ?_|refine z_B ?_|refine z_C ?_|refine z_D ?_|refine z_E ?_|refine z_F ?_|refine z_G ?_|refine z_H ?_|refine z_I ?_)
    refine ⟨rfl, -1, rfl, ⟨fun h => by omega, fun hm => ?_⟩⟩
    have : k = ss.length := by omega
    subst this
    rw [List.take_length] at hno
    exact absurd rfl (hno n hm)
theorem Contains54 (v : Value) (ss : List Int) (n : Int) (w : World) (hv : Rd w v (iV ss)) : CallP Try.prog 54 #[v, .int .i64 n] (fun r w' => w = w' ∧ r = .bool (decide (n ∈ ss))) w := by
  refine ⟨S54.calls _ _ _ _ ?_⟩
  unfold S54
  refine (Index68 v ss n w hv).mono ?_
  rintro _ _ ⟨rfl, k, rfl, hk⟩
  refine bi_geq_c (fun h => ?_) (fun h => ?_)
  · exact ⟨rfl, tB (hk.1 h)⟩
  · exact ⟨rfl, fB fun e => h (hk.2 e)⟩
theorem at29 {hu : Nat} {c : Nat → Nat} {w : World} {g : Nat} {vL : Value} {M : List Lm} (id : Int) (v : Value) (ss : List Int) (h : BdAt hu c w g vL M) (hv : Rd w v (iV ss)) (hid : id ≤ 9223372036854775807) :
    CallP Try.prog 29 #[.pointer (some ⟨g, 0, none⟩), .int .i64 id, v] (fun r w' => w = w' ∧ ((∃ (i gL cL : Nat) (hi : i < M.length), id = i + 1 ∧ M[i].x.st ∈ ss ∧ vL = .slice (some ⟨gL, 0, none⟩) M.length cL ∧ r = .pointer (some ⟨gL, i * 3, none⟩)) ∨
      (r = .pointer none ∧ ¬ (1 ≤ id ∧ id ≤ M.length ∧ stV (absB M) id ∈ ss)))) w := by
  refine ⟨S29.calls _ _ _ _ _ ?_⟩
  unfold S29
  obtain ⟨A, cL, rfl, hml⟩ := h.slice
  have cc0 : w.cell? ⟨g, 0, none⟩ = some (.slice A M.length cL) := h.blk.cell 0
  refine bi_lss_c (fun h1 => ?_) (fun h1 => ?_)
  · (repeat with_reducible first|refine z_a ?_|refine z_b ?_|refine z_c ?_|refine z_d ?_|refine z_e ?_|refine z_f ?_|refine z_g ?_|refine z_h ?_|refine z_i ?_|refine z_j ?_|refine z_k ?_|refine z_l ?_|refine z_m (by omega) ?_|refine z_n (by omega) ?_|refine z_o (by omega) ?_|refine z_p (by omega) ?_|refine z_q (by omega) ?_|refine z_r (by omega) ?_|refine z_s (by omega) ?_|refine z_t (by omega) ?_|refine z_u (by omega) ?_|refine z_v (by omega) ?_|refine z_w (by omega) ?_|refine z_x (by omega) ?_|refine z_y (by omega) ?_|refine z_z (by omega) ?_|refine z_A ?_|refine z_B ?_|refine z_C ?_|refine z_D ?_|refine z_E ?_|refine z_F ?_|refine z_G ?_|refine z_H ?_|refine z_I ?_)
    exact ⟨rfl, .inr ⟨rfl, fun e => by omega⟩⟩
  (repeat with_reducible first | refine fd b0 (by decide) ?_| refine ld oneLs cc0 ?_| refine ln undLs ?_|refine z_a ?_|refine z_b ?_|refine z_c ?_|refine z_d ?_|refine z_e ?_|refine z_f ?_|refine z_g ?_|refine z_h ?_|refine z_i ?_|refine z_j ?_|refine z_k ?_|refine z_l ?_|refine z_m (by omega) ?_|refine z_n (by omega) ?_|refine z_o (by omega) ?_|refine z_p (by omega) ?_|refine z_q (by omega) ?_|refine z_r (by omega) ?_|refine z_s (by omega) ?_|refine z_t (by omega) ?_|refine z_u (by omega) ?_|refine z_v (by omega) ?_|refine z_w (by omega) ?_|refine z_x (by omega) ?_|refine z_y (by omega) ?_|refine z_z (by omega) ?_|refine z_A ?_|refine z_B ?_|refine z_C ?_|refine z_D ?_|refine z_E ?_|refine z_F ?_|refine z_G ?_|refine z_H ?_|refine z_I ?_)
  refine bi_gtr_c (fun h2 => ?_) (fun h2 => ?_)
  · (repeat with_reducible first|refine z_a ?_|refine z_b ?_|refine z_c ?_|refine z_d ?_|refine z_e ?_|refine z_f ?_|refine z_g ?_|refine z_h ?_|refine z_i ?_|refine z_j ?_|refine z_k ?_|refine z_l ?_|refine z_m (by omega) ?_|refine z_n (by omega) ?_|refine z_o (by omega) ?_|refine z_p (by omega) ?_|refine z_q (by omega) ?_|refine z_r (by omega) ?_|refine z_s (by omega) ?_|refine z_t (by omega) ?_|refine z_u (by omega) ?_|refine z_v (by omega) ?_|refine z_w (by omega) ?_|refine z_x (by omega) ?_|refine z_y (by omega) ?_|refine z_z (by omega) ?_|refine z_A ?_|refine z_B ?_|refine z_C ?_|refine z_D ?_|refine z_E ?_|refine z_F ?_|refine z_G ?_|refine z_H ?_|refine z_I ?_)
    exact ⟨rfl, .inr ⟨rfl, fun e => by omega⟩⟩
  obtain ⟨i, hi, rfl⟩ : ∃ i : Nat, i < M.length ∧ id = i + 1 := ⟨(id - 1).toNat, by omega, by omega⟩
  obtain ⟨gL, cL', he, _, q1, _⟩ := h.at i hi
  cases he
  have e1 : ((i : Int) + 1 - 1) = (i : Int) := by omega
  (repeat with_reducible first | refine fd b0 (by decide) ?_| refine ld oneLs cc0 ?_|refine z_a ?_|refine z_b ?_|refine z_c ?_|refine z_d ?_|refine z_e ?_|refine z_f ?_|refine z_g ?_|refine z_h ?_|refine z_i ?_|refine z_j ?_|refine z_k ?_|refine z_l ?_|refine z_m (by omega) ?_|refine z_n (by omega) ?_|refine z_o (by omega) ?_|refine z_p (by omega) ?_|refine z_q (by omega) ?_|refine z_r (by omega) ?_|refine z_s (by omega) ?_|refine z_t (by omega) ?_|refine z_u (by omega) ?_|refine z_v (by omega) ?_|refine z_w (by omega) ?_|refine z_x (by omega) ?_|refine z_y (by omega) ?_|refine z_z (by omega) ?_|refine z_A ?_|refine z_B ?_|refine z_C ?_|refine z_D ?_|refine z_E ?_|refine z_F ?_|refine z_G ?_|refine z_H ?_|refine z_I ?_)
  rw [e1]
  (repeat with_reducible first | refine ixG undLs szL i hi ?_| refine fdG l1 (by decide) ?_| refine ld oneI q1 ?_|refine z_a ?_|refine z_b ?_|refine z_c ?_|refine z_d ?_|refine z_e ?_|refine z_f ?_|refine z_g ?_|refine z_h ?_|refine z_i ?_|refine z_j ?_|refine z_k ?_|refine z_l ?_|refine z_m (by omega) ?_|refine z_n (by omega) ?_|refine z_o (by omega) ?_|refine z_p (by omega) ?_|refine z_q (by omega) ?_|refine z_r (by omega) ?_|refine z_s (by omega) ?_|refine z_t (by omega) ?_|refine z_u (by omega) ?_|refine z_v (by omega) ?_|refine z_w (by omega) ?_|refine z_x (by omega) ?_|refine z_y (by omega) ?_|refine z_z (by omega) ?_|refine z_A ?_|refine z_B ?_|refine z_C ?_|refine z_D ?_|refine z_E ?_|refine z_F ?_|refine z_G ?_|refine z_H ?_|refine z_I ?_)
  refine (Contains54 v ss _ w hv).mono ?_
  rintro _ _ ⟨rfl, rfl⟩
  by_cases hin : M[i].x.st ∈ ss
  · rw [decide_eq_true hin]
    (repeat with_reducible first | refine fd b0 (by decide) ?_| refine ld oneLs cc0 ?_|refine z_a ?_|refine z_b ?_|refine z_c ?_|refine z_d ?_|refine z_e ?_|refine z_f ?_|refine z_g ?_|refine z_h ?_|refine z_i ?_|refine z_j ?_|refine z_k ?_|refine z_l ?_|refine z_m (by omega) ?_|refine z_n (by omega) ?_|refine z_o (by omega) ?_|refine z_p (by omega) ?_|refine z_q (by omega) ?_|refine z_r (by omega) ?_|refine z_s (by omega) ?_|refine z_t (by omega) ?_|refine z_u (by omega) ?_|refine z_v (by omega) ?_|refine z_w (by omega) ?_|refine z_x (by omega) ?_|refine z_y (by omega) ?_|refine z_z (by omega) ?_|refine z_A ?_|refine z_B ?_|refine z_C ?_|refine z_D ?_|refine z_E ?_|refine z_F ?_|refine z_G ?_|refine z_H ?_|refine z_I ?_)
    rw [e1]
    refine ixG undLs szL i hi ?_
    exact ⟨rfl, .inl ⟨i, gL, _, hi, rfl, hin, rfl, rfl⟩⟩
  · rw [decide_eq_false hin]
    (repeat with_reducible first|refine z_a ?_|refine z_b ?_|refine z_c ?_|refine z_d ?_|refine z_e ?_|refine z_f ?_|refine z_g ?_|refine z_h ?_|refine z_i ?_|refine z_j ?_|refine z_k ?_|refine z_l ?_|refine z_m (by omega) ?_|refine z_n (by omega) ?_|refine z_o (by omega) ?_|refine z_p (by omega) ?_|refine z_q (by omega) ?_|refine z_r (by omega) ?_|refine z_s (by omega) ?_|refine z_t (by omega) ?_|refine z_u (by omega) ?_|refine z_v (by omega) ?_|refine z_w (by omega) ?_|refine z_x (by omega) ?_|refine z_y (by omega) ?_|refine z_z (by omega) ?_|refine z_A ?_|refine z_B ?_|refine z_C ?_|refine z_D ?_|refine z_E ?_|refine z_F ?_|refine z_G ?_|refine z_H ?_|refine z_I ?_)
    refine ⟨rfl, .inr ⟨rfl, fun e => hin ?_⟩⟩
    rw [← absB_st i hi rfl]
    exact e.2.2
theorem nilP {t e : TypeId} {K : Value → World → Prop} {w : World} {x y : Operand} (ht : Try.prog.underlying t = some (.pointer e)) {a : Option Addr} (k : K (.bool a.isNone) w) : LiftP Try.prog (binS .eql t x y (.pointer a) (.pointer none)) K w := ofPR (pr_pnil ht) k
theorem nnilP {t e : TypeId} {K : Value → World → Prop} {w : World} {x y : Operand} (ht : Try.prog.underlying t = some (.pointer e)) {a : Option Addr} (k : K (.bool a.isSome) w) : LiftP Try.prog (binS .neq t x y (.pointer a) (.pointer none)) K w := ofPR (pr_pnot ht) k
theorem State13 {hu : Nat} {c : Nat → Nat} {w : World} {g n : Nat} {V : BdV} (id : Int) (hid : id ≤ 9223372036854775807) (h : BdS hu c w g V) (hok : BdOk n V) :
    CallP Try.prog 13 #[.pointer (some ⟨g, 0, none⟩), .int .i64 id] (fun r w' => r = .int .i64 (stV V id) ∧ Below w.heap.size w w') w := by
  obtain ⟨vL, M, h, rfl⟩ := h
  refine ⟨S13.calls _ _ _ _ ?_⟩
  unfold S13
  refine bsO (e := 3) (xs := iV [1, 2, 3]) (by kernel_rfl) rfl (by decide) ?_
  intro v1 w1 ho1 _ hb1
  have h1 := h.below hb1
  refine (at29 id v1 [1, 2, 3] h1 ho1.rd hid).mono ?_
  rintro _ _ ⟨rfl, ⟨i, gL, cL, hi, rfl, hin, rfl, rfl⟩ | ⟨rfl, hno⟩⟩
  · obtain ⟨gL', cL', he, _, q1, _⟩ := h1.at i hi
    cases he
    refine nnilP undLp ?_
    simp only [Option.isSome_some]
    (repeat with_reducible first | refine fdG l1 (by decide) ?_| refine ld oneI q1 ?_|refine z_a ?_|refine z_b ?_|refine z_c ?_|refine z_d ?_|refine z_e ?_|refine z_f ?_|refine z_g ?_|refine z_h ?_|refine z_i ?_|refine z_j ?_|refine z_k ?_|refine z_l ?_|refine z_m (by omega) ?_|refine z_n (by omega) ?_|refine z_o (by omega) ?_|refine z_p (by omega) ?_|refine z_q (by omega) ?_|refine z_r (by omega) ?_|refine z_s (by omega) ?_|refine z_t (by omega) ?_|refine z_u (by omega) ?_|refine z_v (by omega) ?_|refine z_w (by omega) ?_|refine z_x (by omega) ?_|refine z_y (by omega) ?_|refine z_z (by omega) ?_|refine z_A ?_|refine z_B ?_|refine z_C ?_|refine z_D ?_|refine z_E ?_|refine z_F ?_|refine z_G ?_|refine z_H ?_|refine z_I ?_)
    exact ⟨by rw [absB_st i hi rfl], hb1⟩
  · refine nnilP undLp ?_
    simp only [Option.isSome_none]
    (repeat with_reducible first|refine z_a ?_|refine z_b ?_|refine z_c ?_|refine z_d ?_|refine z_e ?_|refine z_f ?_|refine z_g ?_|refine z_h ?_|refine z_i ?_|refine z_j ?_|refine z_k ?_|refine z_l ?_|refine z_m (by omega) ?_|refine z_n (by omega) ?_|refine z_o (by omega) ?_|refine z_p (by omega) ?_|refine z_q (by omega) ?_|refine z_r (by omega) ?_|refine z_s (by omega) ?_|refine z_t (by omega) ?_|refine z_u (by omega) ?_|refine z_v (by omega) ?_|refine z_w (by omega) ?_|refine z_x (by omega) ?_|refine z_y (by omega) ?_|refine z_z (by omega) ?_|refine z_A ?_|refine z_B ?_|refine z_C ?_|refine z_D ?_|refine z_E ?_|refine z_F ?_|refine z_G ?_|refine z_H ?_|refine z_I ?_)
    refine ⟨?_, hb1⟩
    by_cases hr : 1 ≤ id ∧ id ≤ M.length
    · exfalso
      refine hno ⟨hr.1, hr.2, ?_⟩
      rw [stV_at hr.1 (by rw [absB_len]; exact hr.2)]
      have := (hok.2 _ (List.getElem_mem (l := absB M) (n := (id - 1).toNat) (by rw [absB_len]; omega))).st
      simpa using this
    · rw [stV_no (by rw [absB_len]; exact hr)]
end Go.Proofs.Ytcfncjejpjjhdaa.E
namespace Go.Proofs.Ytcfncjejpjjhdaa.E
open Go Go.RowKit
set_option linter.unusedSimpArgs false
set_option linter.unusedVariables false

theorem undEs : Try.prog.underlying 113 = some (.slice 28) := by kernel_rfl
theorem szE : (Try.prog.info? 28).map (·.size) = some 1 := by kernel_rfl
theorem oneE : oneB Try.prog 28 = true := by kernel_rfl
theorem oneBo : oneB Try.prog 4 = true := by kernel_rfl
theorem szBo : (Try.prog.info? 4).map (·.size) = some 1 := by kernel_rfl
theorem undBo : Try.prog.underlying 4 = some .bool := by kernel_rfl
theorem undSe : Try.prog.underlying 94 = some (.array 4 4) := by kernel_rfl
theorem zSe : (Try.prog.info? 94).bind (·.zero) = some (.agg #[.bool false, .bool false, .bool false, .bool false]) := by kernel_rfl
theorem x0 : fofs Try.prog 47 0 = some (0, 1) := by kernel_rfl
theorem x1 : fofs Try.prog 47 1 = some (1, 1) := by kernel_rfl
open Classical in
/-- What is wrong with an index. -/
noncomputable def ckX (id : Int) (fs : List Int) : Int := if 1 ≤ id ∧ id ≤ 6 then ckI fs else 1
theorem number53 (id : Int) (w : World) : CallP Try.prog 53 #[.int .i64 id] (fun r w' => w = w' ∧ r = .bool (decide (1 ≤ id ∧ id ≤ 6))) w := by
  refine ⟨S53.calls _ _ _ ?_⟩
  unfold S53
  refine bi_geq_c (fun h => ?_) (fun h => ?_)
  · (repeat with_reducible first|refine z_a ?_|refine z_b ?_|refine z_c ?_|refine z_d ?_|refine z_e ?_|refine z_f ?_|refine z_g ?_|refine z_h ?_|refine z_i ?_|refine z_j ?_|refine z_k ?_|refine z_l ?_|refine z_m (by omega) ?_|refine z_n (by omega) ?_|refine z_o (by omega) ?_|refine z_p (by omega) ?_|refine z_q (by omega) ?_|refine z_r (by omega) ?_|refine z_s (by omega) ?_|refine z_t (by omega) ?_|refine z_u (by omega) ?_|refine z_v (by omega) ?_|refine z_w (by omega) ?_|refine z_x (by omega) ?_|refine z_y (by omega) ?_|refine z_z (by omega) ?_|refine z_A ?_|refine z_B ?_|refine z_C ?_|refine z_D ?_|refine z_E ?_|refine z_F ?_|refine z_G ?_|refine z_H ?_|refine z_I ?_)
    refine bi_leq_c (fun h1 => ?_) (fun h1 => ?_)
    · (repeat with_reducible first|refine z_a ?_|refine z_b ?_|refine z_c ?_|refine z_d ?_|refine z_e ?_|refine z_f ?_|refine z_g ?_|refine z_h ?_|refine z_i ?_|refine z_j ?_|refine z_k ?_|refine z_l ?_|refine z_m (by omega) ?_|refine z_n (by omega) ?_|refine z_o (by omega) ?_|refine z_p (by omega) ?_|refine z_q (by omega) ?_|refine z_r (by omega) ?_|refine z_s (by omega) ?_|refine z_t (by omega) ?_|refine z_u (by omega) ?_|refine z_v (by omega) ?_|refine z_w (by omega) ?_|refine z_x (by omega) ?_|refine z_y (by omega) ?_|refine z_z (by omega) ?_|refine z_A ?_|refine z_B ?_|refine z_C ?_|refine z_D ?_|refine z_E ?_|refine z_F ?_|refine z_G ?_|refine z_H ?_|refine z_I ?_)
      exact ⟨rfl, tB ⟨by omega, by omega⟩⟩
    · (repeat with_reducible first|refine z_a ?_|refine z_b ?_|refine z_c ?_|refine z_d ?_|refine z_e ?_|refine z_f ?_|refine z_g ?_|refine z_h ?_|refine z_i ?_|refine z_j ?_|refine z_k ?_|refine z_l ?_|refine z_m (by omega) ?_|refine z_n (by omega) ?_|refine z_o (by omega) ?_|refine z_p (by omega) ?_|refine z_q (by omega) ?_|refine z_r (by omega) ?_|refine z_s (by omega) ?_|refine z_t (by omega) ?_|refine z_u (by omega) ?_|refine z_v (by omega) ?_|refine z_w (by omega) ?_|refine z_x (by omega) ?_|refine z_y (by omega) ?_|refine z_z (by omega) ?_|refine z_A ?_|refine z_B ?_|refine z_C ?_|refine z_D ?_|refine z_E ?_|refine z_F ?_|refine z_G ?_|refine z_H ?_|refine z_I ?_)
      exact ⟨rfl, fB fun e => by omega⟩
  · (repeat with_reducible first|refine z_a ?_|refine z_b ?_|refine z_c ?_|refine z_d ?_|refine z_e ?_|refine z_f ?_|refine z_g ?_|refine z_h ?_|refine z_i ?_|refine z_j ?_|refine z_k ?_|refine z_l ?_|refine z_m (by omega) ?_|refine z_n (by omega) ?_|refine z_o (by omega) ?_|refine z_p (by omega) ?_|refine z_q (by omega) ?_|refine z_r (by omega) ?_|refine z_s (by omega) ?_|refine z_t (by omega) ?_|refine z_u (by omega) ?_|refine z_v (by omega) ?_|refine z_w (by omega) ?_|refine z_x (by omega) ?_|refine z_y (by omega) ?_|refine z_z (by omega) ?_|refine z_A ?_|refine z_B ?_|refine z_C ?_|refine z_D ?_|refine z_E ?_|refine z_F ?_|refine z_G ?_|refine z_H ?_|refine z_I ?_)
    exact ⟨rfl, fB fun e => by omega⟩
theorem when52 (b : Bool) (e : Int) (w : World) : CallP Try.prog 52 #[.bool b, .int .i64 e] (fun r w' => w = w' ∧ r = .int .i64 (if b then e else 0)) w := by
  refine ⟨S52.calls _ _ _ _ ?_⟩
  unfold S52
  cases b with
  | true => (repeat with_reducible first|refine z_a ?_|refine z_b ?_|refine z_c ?_|refine z_d ?_|refine z_e ?_|refine z_f ?_|refine z_g ?_|refine z_h ?_|refine z_i ?_|refine z_j ?_|refine z_k ?_|refine z_l ?_|refine z_m (by omega) ?_|refine z_n (by omega) ?_|refine z_o (by omega) ?_|refine z_p (by omega) ?_|refine z_q (by omega) ?_|refine z_r (by omega) ?_|refine z_s (by omega) ?_|refine z_t (by omega) ?_|refine z_u (by omega) ?_|refine z_v (by omega) ?_|refine z_w (by omega) ?_|refine z_x (by omega) ?_|refine z_y (by omega) ?_|refine z_z (by omega) ?_|refine z_A ?_|refine z_B ?_|refine z_C ?_|refine z_D ?_|refine z_E ?_|refine z_F ?_|refine z_G ?_|refine z_H ?_|refine z_I ?_); exact ⟨rfl, rfl⟩
  | false => (repeat with_reducible first|refine z_a ?_|refine z_b ?_|refine z_c ?_|refine z_d ?_|refine z_e ?_|refine z_f ?_|refine z_g ?_|refine z_h ?_|refine z_i ?_|refine z_j ?_|refine z_k ?_|refine z_l ?_|refine z_m (by omega) ?_|refine z_n (by omega) ?_|refine z_o (by omega) ?_|refine z_p (by omega) ?_|refine z_q (by omega) ?_|refine z_r (by omega) ?_|refine z_s (by omega) ?_|refine z_t (by omega) ?_|refine z_u (by omega) ?_|refine z_v (by omega) ?_|refine z_w (by omega) ?_|refine z_x (by omega) ?_|refine z_y (by omega) ?_|refine z_z (by omega) ?_|refine z_A ?_|refine z_B ?_|refine z_C ?_|refine z_D ?_|refine z_E ?_|refine z_F ?_|refine z_G ?_|refine z_H ?_|refine z_I ?_); exact ⟨rfl, rfl⟩
/-- The first that is not 0. -/
def fstE (l : List Int) : Int := (l.find? fun e => decide (e ≠ 0)).getD 0
theorem first51 (v : Value) (es : List Int) (w : World) (hv : Rd w v (iV es)) : CallP Try.prog 51 #[v] (fun r w' => w = w' ∧ r = .int .i64 (fstE es)) w := by
  obtain ⟨A, c, rfl, hc, hm⟩ := hv.slice
  have hlen : (iV es).length = es.length := List.length_map _
  rw [hlen] at hv ⊢
  refine ⟨S51.calls _ _ _ ?_⟩
  unfold S51
  refine ln undEs ?_
  refine LoopP.inv1 (fun iv w' => ∃ k : Nat, k ≤ es.length ∧ iv = .int .i64 k ∧ fstE es = fstE (es.drop k) ∧ w = w') (fun iv _ => es.length - (intOf iv).toNat) ⟨0, by omega, rfl, rfl, rfl⟩ ?_
  rintro _ _ ⟨k, hk, rfl, hno, rfl⟩ J hJ
  dsimp only [List.headD_cons, List.tail_cons]
  refine bi_lss_c (fun h => ?_) (fun h => ?_)
  · have hk' : k < es.length := by omega
    obtain ⟨a, rfl, hca⟩ := Rd.atI hv k hk'
    rw [List.drop_eq_getElem_cons hk'] at hno
    (repeat with_reducible first|refine z_a ?_|refine z_b ?_|refine z_c ?_|refine z_d ?_|refine z_e ?_|refine z_f ?_|refine z_g ?_|refine z_h ?_|refine z_i ?_|refine z_j ?_|refine z_k ?_|refine z_l ?_|refine z_m (by omega) ?_|refine z_n (by omega) ?_|refine z_o (by omega) ?_|refine z_p (by omega) ?_|refine z_q (by omega) ?_|refine z_r (by omega) ?_|refine z_s (by omega) ?_|refine z_t (by omega) ?_|refine z_u (by omega) ?_|refine z_v (by omega) ?_|refine z_w (by omega) ?_|refine z_x (by omega) ?_|refine z_y (by omega) ?_|refine z_z (by omega) ?_|refine z_A ?_|refine z_B ?_|refine z_C ?_|refine z_D ?_|refine z_E ?_|refine z_F ?_|refine z_G ?_|refine z_H ?_|refine z_I ?_)
    refine ix1 undEs szE hk' ?_
    refine ld oneE hca ?_
    refine bi_neq_c (fun h1 => ?_) (fun h1 => ?_)
    · (repeat with_reducible first|refine z_a ?_|refine z_b ?_|refine z_c ?_|refine z_d ?_|refine z_e ?_|refine z_f ?_|refine z_g ?_|refine z_h ?_|refine z_i ?_|refine z_j ?_|refine z_k ?_|refine z_l ?_|refine z_m (by omega) ?_|refine z_n (by omega) ?_|refine z_o (by omega) ?_|refine z_p (by omega) ?_|refine z_q (by omega) ?_|refine z_r (by omega) ?_|refine z_s (by omega) ?_|refine z_t (by omega) ?_|refine z_u (by omega) ?_|refine z_v (by omega) ?_|refine z_w (by omega) ?_|refine z_x (by omega) ?_|refine z_y (by omega) ?_|refine z_z (by omega) ?_|refine z_A ?_|refine z_B ?_|refine z_C ?_|refine z_D ?_|refine z_E ?_|refine z_F ?_|refine z_G ?_|refine z_H ?_|refine z_I ?_)
      refine ⟨rfl, ?_⟩
      rw [hno]
      unfold fstE
      rw [List.find?_cons_of_pos (by simpa using h1)]
      rfl
    · (repeat with_reducible first|refine z_a ?_|refine z_b ?_|refine z_c ?_|refine z_d ?_|refine z_e ?_|refine z_f ?_|refine z_g ?_|refine z_h ?_|refine z_i ?_|refine z_j ?_|refine z_k ?_|refine z_l ?_|refine z_m (by omega) ?_|refine z_n (by omega) ?_|refine z_o (by omega) ?_|refine z_p (by omega) ?_|refine z_q (by omega) ?_|refine z_r (by omega) ?_|refine z_s (by omega) ?_|refine z_t (by omega) ?_|refine z_u (by omega) ?_|refine z_v (by omega) ?_|refine z_w (by omega) ?_|refine z_x (by omega) ?_|refine z_y (by omega) ?_|refine z_z (by omega) ?_|refine z_A ?_|refine z_B ?_|refine z_C ?_|refine z_D ?_|refine z_E ?_|refine z_F ?_|refine z_G ?_|refine z_H ?_|refine z_I ?_)
      refine hJ _ _ ⟨k + 1, by omega, by simp, ?_, rfl⟩ (by simp [intOf]; omega)
      rw [hno]
      unfold fstE
      rw [List.find?_cons_of_neg (by simpa using h1)]
  · (repeat with_reducible first|refine z_a ?_|refine z_b ?_|refine z_c ?_|refine z_d ?_|refine z_e ?_|refine z_f ?_|refine z_g ?_|refine z_h ?_|refine z_i ?_|refine z_j ?_|refine z_k ?_|refine z_l ?_|refine z_m (by omega) ?_|refine z_n (by omega) ?_|refine z_o (by omega) ?_|refine z_p (by omega) ?_|refine z_q (by omega) ?_|refine z_r (by omega) ?_|refine z_s (by omega) ?_|refine z_t (by omega) ?_|refine z_u (by omega) ?_|refine z_v (by omega) ?_|refine z_w (by omega) ?_|refine z_x (by omega) ?_|refine z_y (by omega) ?_|refine z_z (by omega) ?_|refine z_A ?_|refine z_B ?_|refine z_C ?_|refine z_D ?_|refine z_E ?_|refine z_F ?_|refine z_G ?_|refine z_H ?_|refine z_I ?_)
    refine ⟨rfl, ?_⟩
    rw [hno, List.drop_eq_nil_of_le (by omega)]
    rfl
section
variable {P : Program} {K : Value → World → Prop} {w : World}
theorem bs1I {t e : TypeId} {kd : IntKind} (hb : ∀ (w : World) (a : Int), (Instr.buildSlice t 1 #[(0, .int kd a)]).run P w = .ok (.slice (some ⟨w.heap.size, 0, none⟩) 1 1) (w.alloc (.cells #[.int kd a] e))) {a : Int}
    (k : ∀ v' w', Own e w' v' [.int kd a] → Fresh w.heap.size v' → Below w.heap.size w w' → K v' w') : LiftP P (Instr.buildSlice t 1 #[(0, .int kd a)]) K w := bsO (xs := [.int kd a]) (hb w a) rfl (by decide) k
theorem bs2I {t e : TypeId} {kd : IntKind} (hb : ∀ (w : World) (a b : Int), (Instr.buildSlice t 2 #[(0, .int kd a), (1, .int kd b)]).run P w = .ok (.slice (some ⟨w.heap.size, 0, none⟩) 2 2) (w.alloc (.cells #[.int kd a, .int kd b] e))) {a b : Int}
    (k : ∀ v' w', Own e w' v' [.int kd a, .int kd b] → Fresh w.heap.size v' → Below w.heap.size w w' → K v' w') : LiftP P (Instr.buildSlice t 2 #[(0, .int kd a), (1, .int kd b)]) K w := bsO (xs := [.int kd a, .int kd b]) (hb w a b) rfl (by decide) k
end
theorem bE2 (w : World) (a b : Int) : (Instr.buildSlice 113 2 #[(0, .int .i64 a), (1, .int .i64 b)]).run Try.prog w = .ok (.slice (some ⟨w.heap.size, 0, none⟩) 2 2) (w.alloc (.cells #[.int .i64 a, .int .i64 b] 28)) := by kernel_rfl
theorem bI1 (w : World) (a : Int) : (Instr.buildSlice 23 1 #[(0, .int .i64 a)]).run Try.prog w = .ok (.slice (some ⟨w.heap.size, 0, none⟩) 1 1) (w.alloc (.cells #[.int .i64 a] 3)) := by kernel_rfl
def seenV (l : List Int) : List Value := (List.range 4).map fun (i : Nat) => .bool (decide ((i : Int) ∈ l))
theorem seen_at (l : List Int) (i : Nat) (hi : i < 4) : (seenV l).toArray[i]? = some (.bool (decide ((i : Int) ∈ l))) := by
  unfold seenV
  rw [List.getElem?_toArray, List.getElem?_map, List.getElem?_range hi]
  rfl
theorem seen_get (l : List Int) (j : Nat) (h : j < (seenV l).length) : (seenV l)[j] = .bool (decide ((j : Int) ∈ l)) := by simp [seenV]
theorem seen_set (l : List Int) (i : Nat) (hi : i < 4) : (seenV l).toArray.setIfInBounds i (.bool true) = (seenV (l ++ [(i : Int)])).toArray := by
  rw [List.setIfInBounds_toArray]
  congr 1
  refine List.ext_getElem (by simp [seenV]) fun j h1 h2 => ?_
  rw [List.getElem_set, seen_get, seen_get]
  split
  · rename_i e
    subst e
    rw [decide_eq_true (by simp)]
  · rename_i e
    congr 1
    rw [decide_eq_decide, List.mem_append]
    refine ⟨.inl, fun h => h.elim id fun h => ?_⟩
    simp only [List.mem_cons, List.not_mem_nil, or_false] at h
    omega
theorem ckF_take {fs : List Int} {k : Nat} (hk : k < fs.length) (h1 : 0 ≤ fs[k]) (h2 : fs[k] < 4) (h3 : fs[k] ∉ fs.take k) (h : ckF (fs.take k)) : ckF (fs.take (k + 1)) := by
  rw [List.take_succ_eq_append_getElem hk]
  refine ⟨fun n hn => ?_, ?_⟩
  · rcases List.mem_append.1 hn with hn | hn
    · exact h.1 n hn
    · simp only [List.mem_cons, List.not_mem_nil, or_false] at hn
      omega
  · rw [List.nodup_append]
    refine ⟨h.2, by simp, fun a ha b hb e => ?_⟩
    simp only [List.mem_cons, List.not_mem_nil, or_false] at hb
    subst hb
    subst e
    exact h3 ha
theorem ckF_not {fs : List Int} {k : Nat} (hk : k < fs.length) (h : fs[k] < 0 ∨ 4 ≤ fs[k] ∨ fs[k] ∈ fs.take k) : ¬ ckF fs := by
  intro hc
  have hb := hc.1 _ (List.getElem_mem hk)
  rcases h with h | h | h
  · omega
  · omega
  · obtain ⟨j, hj, he⟩ := List.getElem_of_mem h
    rw [List.length_take] at hj
    rw [List.getElem_take] at he
    have := (List.pairwise_iff_getElem.1 hc.2) j k (by omega) hk (by omega)
    exact this he
theorem ck_first {id : Int} {fs : List Int} {b1 b2 : Bool} (h1 : b1 = true ↔ ¬ (1 ≤ id ∧ id ≤ 6) ∨ fs.length = 0) (h2 : b2 = true ↔ 2 < fs.length) :
    (fstE [if b1 then 1 else 0, if b2 then 4 else 0] ≠ 0 → ckX id fs = fstE [if b1 then 1 else 0, if b2 then 4 else 0]) ∧ (fstE [if b1 then 1 else 0, if b2 then 4 else 0] = 0 → (1 ≤ id ∧ id ≤ 6) ∧ 1 ≤ fs.length ∧ fs.length ≤ 2) := by
  have hnil : fs = [] ↔ fs.length = 0 := List.length_eq_zero_iff.symm
  unfold ckX ckI
  cases b1 with
  | true =>
    have e : fstE [if true = true then 1 else 0, if b2 = true then 4 else 0] = 1 := rfl
    rw [e]
    refine ⟨fun _ => ?_, fun h => by omega⟩
    rcases h1.1 rfl with h | h
    · rw [if_neg h]
    · split
      · rw [if_pos (hnil.2 h)]
      · rfl
  | false =>
    have hn : ¬ (¬ (1 ≤ id ∧ id ≤ 6) ∨ fs.length = 0) := fun h => by have := h1.2 h; cases this
    have hv : 1 ≤ id ∧ id ≤ 6 := Classical.not_not.1 fun h => hn (.inl h)
    have hl : ¬ fs.length = 0 := fun h => hn (.inr h)
    cases b2 with
    | true =>
      have e : fstE [if false = true then 1 else 0, if true = true then 4 else 0] = 4 := rfl
      rw [e, if_pos hv, if_neg (fun h => hl (hnil.1 h)), if_pos (h2.1 rfl)]
      exact ⟨fun _ => rfl, fun h => by omega⟩
    | false =>
      have e : fstE [if false = true then 1 else 0, if false = true then 4 else 0] = 0 := rfl
      rw [e]
      refine ⟨fun h => absurd rfl h, fun _ => ⟨hv, by omega, ?_⟩⟩
      have : ¬ 2 < fs.length := fun h => by have := h2.2 h; cases this
      omega
theorem CheckIndex27 (id : Int) (vf : Value) (fs : List Int) (w : World) (hv : Rd w vf (iV fs)) : CallP Try.prog 27 #[.agg #[.int .i64 id, vf]] (fun r w' => r = .int .i64 (ckX id fs) ∧ Below w.heap.size w w') w := by
  obtain ⟨A, c, rfl, hc, hm⟩ := hv.slice
  have hlen : (iV fs).length = fs.length := List.length_map _
  rw [hlen] at hv hc ⊢
  refine ⟨S27.calls _ _ _ ?_⟩
  unfold S27
  refine bxB ?_
  intro g1 w1 hg1 hB1 hb1
  have hdr : Below w1.heap.size w1 w1.drew := (Below.refl _ _).drew
  have q0 : ∀ w', Below w1.heap.size w1 w' → w'.cell? ⟨g1, 0, none⟩ = some (.int .i64 id) := fun w' h => (hB1.below' h).cell 0
  have q1 : ∀ w', Below w1.heap.size w1 w' → w'.cell? ⟨g1, 1, none⟩ = some (.slice A fs.length c) := fun w' h => (hB1.below' h).cell 1
  refine draw (Below w1.heap.size w1) hdr ?_
  (repeat with_reducible first | refine yfd x0 (by decide) ?_| refine yl1 oneI q0 ?_| refine yfd x1 (by decide) ?_| refine yl1 oneIs q1 ?_| refine yln undIs ?_|refine z_J ?_|refine z_a ?_|refine z_b ?_|refine z_c ?_|refine z_d ?_|refine z_e ?_|refine z_f ?_|refine z_g ?_|refine z_h ?_|refine z_i ?_|refine z_j ?_|refine z_k ?_|refine z_l ?_|refine z_K (by omega) ?_|refine z_L (by omega) ?_|refine z_M (by omega) ?_|refine z_N (by omega) ?_|refine z_O (by omega) ?_|refine z_P (by omega) ?_|refine z_Q (by omega) ?_|refine z_R (by omega) ?_|refine z_S (by omega) ?_|refine z_T (by omega) ?_|refine z_U (by omega) ?_|refine z_V (by omega) ?_|refine z_W (by omega) ?_|refine z_X (by omega) ?_|refine z_Y ?_|refine z_Z ?_|refine z_a1 ?_|refine z_b1 ?_|refine z_c1 ?_|refine z_d1 ?_|refine z_e1 ?_|refine z_f1 ?_|refine z_g1 ?_)
  generalize hw2 : w1.drew = w2 at *
  refine yi_gtr ?_
  refine act ?_
  refine (number53 id w2).mono ?_
  rintro _ _ ⟨rfl, rfl⟩
  refine ⟨_, hdr, fun _ h => h, ?_⟩
  refine yi_not ?_
  rcases Classical.em (1 ≤ id ∧ id ≤ 6) with hp | hp
  all_goals
    first
      | (have hb1' : decide ((fs.length : Int) = 0) = true ↔ ¬ (1 ≤ id ∧ id ≤ 6) ∨ fs.length = 0 := by
           rw [decide_eq_true_eq]
           exact ⟨fun h => .inr (by omega), fun h => h.elim (fun h => absurd hp h) (fun h => by omega)⟩
         rw [decide_eq_true hp]
         simp only [Bool.not_true]
         (repeat with_reducible first | refine yfd x1 (by decide) ?_| refine yl1 oneIs q1 ?_| refine yln undIs ?_|refine z_J ?_|refine z_a ?_|refine z_b ?_|refine z_c ?_|refine z_d ?_|refine z_e ?_|refine z_f ?_|refine z_g ?_|refine z_h ?_|refine z_i ?_|refine z_j ?_|refine z_k ?_|refine z_l ?_|refine z_K (by omega) ?_|refine z_L (by omega) ?_|refine z_M (by omega) ?_|refine z_N (by omega) ?_|refine z_O (by omega) ?_|refine z_P (by omega) ?_|refine z_Q (by omega) ?_|refine z_R (by omega) ?_|refine z_S (by omega) ?_|refine z_T (by omega) ?_|refine z_U (by omega) ?_|refine z_V (by omega) ?_|refine z_W (by omega) ?_|refine z_X (by omega) ?_|refine z_Y ?_|refine z_Z ?_|refine z_a1 ?_|refine z_b1 ?_|refine z_c1 ?_|refine z_d1 ?_|refine z_e1 ?_|refine z_f1 ?_|refine z_g1 ?_)
         refine yi_eql ?_
         (repeat with_reducible first|refine z_J ?_|refine z_a ?_|refine z_b ?_|refine z_c ?_|refine z_d ?_|refine z_e ?_|refine z_f ?_|refine z_g ?_|refine z_h ?_|refine z_i ?_|refine z_j ?_|refine z_k ?_|refine z_l ?_|refine z_K (by omega) ?_|refine z_L (by omega) ?_|refine z_M (by omega) ?_|refine z_N (by omega) ?_|refine z_O (by omega) ?_|refine z_P (by omega) ?_|refine z_Q (by omega) ?_|refine z_R (by omega) ?_|refine z_S (by omega) ?_|refine z_T (by omega) ?_|refine z_U (by omega) ?_|refine z_V (by omega) ?_|refine z_W (by omega) ?_|refine z_X (by omega) ?_|refine z_Y ?_|refine z_Z ?_|refine z_a1 ?_|refine z_b1 ?_|refine z_c1 ?_|refine z_d1 ?_|refine z_e1 ?_|refine z_f1 ?_|refine z_g1 ?_))
      | (have hb1' : true = true ↔ ¬ (1 ≤ id ∧ id ≤ 6) ∨ fs.length = 0 := ⟨fun _ => .inl hp, fun _ => rfl⟩
         rw [decide_eq_false hp]
         simp only [Bool.not_false]
         (repeat with_reducible first|refine z_J ?_|refine z_a ?_|refine z_b ?_|refine z_c ?_|refine z_d ?_|refine z_e ?_|refine z_f ?_|refine z_g ?_|refine z_h ?_|refine z_i ?_|refine z_j ?_|refine z_k ?_|refine z_l ?_|refine z_K (by omega) ?_|refine z_L (by omega) ?_|refine z_M (by omega) ?_|refine z_N (by omega) ?_|refine z_O (by omega) ?_|refine z_P (by omega) ?_|refine z_Q (by omega) ?_|refine z_R (by omega) ?_|refine z_S (by omega) ?_|refine z_T (by omega) ?_|refine z_U (by omega) ?_|refine z_V (by omega) ?_|refine z_W (by omega) ?_|refine z_X (by omega) ?_|refine z_Y ?_|refine z_Z ?_|refine z_a1 ?_|refine z_b1 ?_|refine z_c1 ?_|refine z_d1 ?_|refine z_e1 ?_|refine z_f1 ?_|refine z_g1 ?_))
    refine act ?_
    refine (when52 _ 1 w2).mono ?_
    rintro _ _ ⟨rfl, rfl⟩
    refine ⟨_, hdr, fun _ h => h, ?_⟩
    refine act ?_
    refine (when52 _ 4 w2).mono ?_
    rintro _ _ ⟨rfl, rfl⟩
    refine ⟨_, hdr, fun _ h => h, ?_⟩
    refine act ?_
    refine bs2I bE2 ?_
    intro v3 w3 ho3 _ h3
    have hb3 := below_then hdr h3
    refine ⟨_, hb3, fun _ h => h, ?_⟩
    refine act ?_
    refine (first51 v3 [_, _] w3 ho3.rd).mono ?_
    rintro _ _ ⟨rfl, rfl⟩
    refine ⟨_, hb3, fun _ h => h, ?_⟩
    have hck := ck_first hb1' (b2 := decide ((2 : Int) < fs.length)) (by rw [decide_eq_true_eq]; omega)
    refine bi_neq_c (fun he => ?_) (fun he => ?_)
    · (repeat with_reducible first|refine z_a ?_|refine z_b ?_|refine z_c ?_|refine z_d ?_|refine z_e ?_|refine z_f ?_|refine z_g ?_|refine z_h ?_|refine z_i ?_|refine z_j ?_|refine z_k ?_|refine z_l ?_|refine z_m (by omega) ?_|refine z_n (by omega) ?_|refine z_o (by omega) ?_|refine z_p (by omega) ?_|refine z_q (by omega) ?_|refine z_r (by omega) ?_|refine z_s (by omega) ?_|refine z_t (by omega) ?_|refine z_u (by omega) ?_|refine z_v (by omega) ?_|refine z_w (by omega) ?_|refine z_x (by omega) ?_|refine z_y (by omega) ?_|refine z_z (by omega) ?_|refine z_A ?_|refine z_B ?_|refine z_C ?_|refine z_D ?_|refine z_E ?_|refine z_F ?_|refine z_G ?_|refine z_H ?_|refine z_I ?_)
      exact ⟨by rw [hck.1 he], below_then hb1 hb3⟩
    obtain ⟨hid, hl1, hl2⟩ := hck.2 he
    first | exact absurd hid hp | skip
  (repeat with_reducible first|refine z_a ?_|refine z_b ?_|refine z_c ?_|refine z_d ?_|refine z_e ?_|refine z_f ?_|refine z_g ?_|refine z_h ?_|refine z_i ?_|refine z_j ?_|refine z_k ?_|refine z_l ?_|refine z_m (by omega) ?_|refine z_n (by omega) ?_|refine z_o (by omega) ?_|refine z_p (by omega) ?_|refine z_q (by omega) ?_|refine z_r (by omega) ?_|refine z_s (by omega) ?_|refine z_t (by omega) ?_|refine z_u (by omega) ?_|refine z_v (by omega) ?_|refine z_w (by omega) ?_|refine z_x (by omega) ?_|refine z_y (by omega) ?_|refine z_z (by omega) ?_|refine z_A ?_|refine z_B ?_|refine z_C ?_|refine z_D ?_|refine z_E ?_|refine z_F ?_|refine z_G ?_|refine z_H ?_|refine z_I ?_)
  refine alB zSe ?_
  intro g4 w4 hg4 hB4 h4
  have hb4 := below_then hb3 h4
  have hs3 := hb3.size
  (repeat with_reducible first | refine fd x1 (by decide) ?_| refine ld oneIs (q1 _ hb4) ?_| refine ln undIs ?_|refine z_a ?_|refine z_b ?_|refine z_c ?_|refine z_d ?_|refine z_e ?_|refine z_f ?_|refine z_g ?_|refine z_h ?_|refine z_i ?_|refine z_j ?_|refine z_k ?_|refine z_l ?_|refine z_m (by omega) ?_|refine z_n (by omega) ?_|refine z_o (by omega) ?_|refine z_p (by omega) ?_|refine z_q (by omega) ?_|refine z_r (by omega) ?_|refine z_s (by omega) ?_|refine z_t (by omega) ?_|refine z_u (by omega) ?_|refine z_v (by omega) ?_|refine z_w (by omega) ?_|refine z_x (by omega) ?_|refine z_y (by omega) ?_|refine z_z (by omega) ?_|refine z_A ?_|refine z_B ?_|refine z_C ?_|refine z_D ?_|refine z_E ?_|refine z_F ?_|refine z_G ?_|refine z_H ?_|refine z_I ?_)
  refine LoopP.inv1 (fun iv w' => ∃ k : Nat, k ≤ fs.length ∧ iv = .int .i64 k ∧ ckF (fs.take k) ∧ Blk w' g4 94 (seenV (fs.take k)).toArray ∧ Below w1.heap.size w1 w') (fun iv _ => fs.length - (intOf iv).toNat) ⟨0, by omega, rfl, ⟨by simp, by simp⟩, hB4, hb4⟩ ?_
  rintro _ w5 ⟨k, hk, rfl, hno, hB5, hb5⟩ J hJ
  dsimp only [List.headD_cons, List.tail_cons]
  refine bi_lss_c (fun h => ?_) (fun h => ?_)
  · have hk' : k < fs.length := by omega
    obtain ⟨a, rfl, hca⟩ := Rd.atI ((hv.below hb1).below hb5) k hk'
    have bad : ∀ {J : Prop}, (fs[k] < 0 ∨ 4 ≤ fs[k] ∨ fs[k] ∈ fs.take k) → ckX id fs = 1 := fun h => by
      unfold ckX ckI
      rw [if_pos hid, if_neg (by intro e; rw [e] at hl1; simp at hl1), if_neg (by omega), if_neg (ckF_not hk' h)]
    (repeat with_reducible first|refine z_a ?_|refine z_b ?_|refine z_c ?_|refine z_d ?_|refine z_e ?_|refine z_f ?_|refine z_g ?_|refine z_h ?_|refine z_i ?_|refine z_j ?_|refine z_k ?_|refine z_l ?_|refine z_m (by omega) ?_|refine z_n (by omega) ?_|refine z_o (by omega) ?_|refine z_p (by omega) ?_|refine z_q (by omega) ?_|refine z_r (by omega) ?_|refine z_s (by omega) ?_|refine z_t (by omega) ?_|refine z_u (by omega) ?_|refine z_v (by omega) ?_|refine z_w (by omega) ?_|refine z_x (by omega) ?_|refine z_y (by omega) ?_|refine z_z (by omega) ?_|refine z_A ?_|refine z_B ?_|refine z_C ?_|refine z_D ?_|refine z_E ?_|refine z_F ?_|refine z_G ?_|refine z_H ?_|refine z_I ?_)
    refine ix1 undIs szI hk' ?_
    refine ld oneI hca ?_
    refine bi_lss_c (fun h1 => ?_) (fun h1 => ?_)
    · (repeat with_reducible first|refine z_a ?_|refine z_b ?_|refine z_c ?_|refine z_d ?_|refine z_e ?_|refine z_f ?_|refine z_g ?_|refine z_h ?_|refine z_i ?_|refine z_j ?_|refine z_k ?_|refine z_l ?_|refine z_m (by omega) ?_|refine z_n (by omega) ?_|refine z_o (by omega) ?_|refine z_p (by omega) ?_|refine z_q (by omega) ?_|refine z_r (by omega) ?_|refine z_s (by omega) ?_|refine z_t (by omega) ?_|refine z_u (by omega) ?_|refine z_v (by omega) ?_|refine z_w (by omega) ?_|refine z_x (by omega) ?_|refine z_y (by omega) ?_|refine z_z (by omega) ?_|refine z_A ?_|refine z_B ?_|refine z_C ?_|refine z_D ?_|refine z_E ?_|refine z_F ?_|refine z_G ?_|refine z_H ?_|refine z_I ?_)
      exact ⟨by rw [bad (J := True) (.inl h1)], below_then hb1 hb5⟩
    (repeat with_reducible first|refine z_a ?_|refine z_b ?_|refine z_c ?_|refine z_d ?_|refine z_e ?_|refine z_f ?_|refine z_g ?_|refine z_h ?_|refine z_i ?_|refine z_j ?_|refine z_k ?_|refine z_l ?_|refine z_m (by omega) ?_|refine z_n (by omega) ?_|refine z_o (by omega) ?_|refine z_p (by omega) ?_|refine z_q (by omega) ?_|refine z_r (by omega) ?_|refine z_s (by omega) ?_|refine z_t (by omega) ?_|refine z_u (by omega) ?_|refine z_v (by omega) ?_|refine z_w (by omega) ?_|refine z_x (by omega) ?_|refine z_y (by omega) ?_|refine z_z (by omega) ?_|refine z_A ?_|refine z_B ?_|refine z_C ?_|refine z_D ?_|refine z_E ?_|refine z_F ?_|refine z_G ?_|refine z_H ?_|refine z_I ?_)
    refine bi_geq_c (fun h2 => ?_) (fun h2 => ?_)
    · (repeat with_reducible first|refine z_a ?_|refine z_b ?_|refine z_c ?_|refine z_d ?_|refine z_e ?_|refine z_f ?_|refine z_g ?_|refine z_h ?_|refine z_i ?_|refine z_j ?_|refine z_k ?_|refine z_l ?_|refine z_m (by omega) ?_|refine z_n (by omega) ?_|refine z_o (by omega) ?_|refine z_p (by omega) ?_|refine z_q (by omega) ?_|refine z_r (by omega) ?_|refine z_s (by omega) ?_|refine z_t (by omega) ?_|refine z_u (by omega) ?_|refine z_v (by omega) ?_|refine z_w (by omega) ?_|refine z_x (by omega) ?_|refine z_y (by omega) ?_|refine z_z (by omega) ?_|refine z_A ?_|refine z_B ?_|refine z_C ?_|refine z_D ?_|refine z_E ?_|refine z_F ?_|refine z_G ?_|refine z_H ?_|refine z_I ?_)
      exact ⟨by rw [bad (J := True) (.inr (.inl h2))], below_then hb1 hb5⟩
    (repeat with_reducible first|refine z_a ?_|refine z_b ?_|refine z_c ?_|refine z_d ?_|refine z_e ?_|refine z_f ?_|refine z_g ?_|refine z_h ?_|refine z_i ?_|refine z_j ?_|refine z_k ?_|refine z_l ?_|refine z_m (by omega) ?_|refine z_n (by omega) ?_|refine z_o (by omega) ?_|refine z_p (by omega) ?_|refine z_q (by omega) ?_|refine z_r (by omega) ?_|refine z_s (by omega) ?_|refine z_t (by omega) ?_|refine z_u (by omega) ?_|refine z_v (by omega) ?_|refine z_w (by omega) ?_|refine z_x (by omega) ?_|refine z_y (by omega) ?_|refine z_z (by omega) ?_|refine z_A ?_|refine z_B ?_|refine z_C ?_|refine z_D ?_|refine z_E ?_|refine z_F ?_|refine z_G ?_|refine z_H ?_|refine z_I ?_)
    obtain ⟨i, hi, hin⟩ : ∃ i : Nat, i < 4 ∧ fs[k] = i := ⟨fs[k].toNat, by omega, by omega⟩
    have hcs := seen_at (fs.take k) i hi
    rw [← hB5.cell i] at hcs
    rw [hin]
    refine ixB undSe szBo hi ?_
    (repeat with_reducible first|refine z_a ?_|refine z_b ?_|refine z_c ?_|refine z_d ?_|refine z_e ?_|refine z_f ?_|refine z_g ?_|refine z_h ?_|refine z_i ?_|refine z_j ?_|refine z_k ?_|refine z_l ?_|refine z_m (by omega) ?_|refine z_n (by omega) ?_|refine z_o (by omega) ?_|refine z_p (by omega) ?_|refine z_q (by omega) ?_|refine z_r (by omega) ?_|refine z_s (by omega) ?_|refine z_t (by omega) ?_|refine z_u (by omega) ?_|refine z_v (by omega) ?_|refine z_w (by omega) ?_|refine z_x (by omega) ?_|refine z_y (by omega) ?_|refine z_z (by omega) ?_|refine z_A ?_|refine z_B ?_|refine z_C ?_|refine z_D ?_|refine z_E ?_|refine z_F ?_|refine z_G ?_|refine z_H ?_|refine z_I ?_)
    refine ld oneBo hcs ?_
    rcases Classical.em ((i : Int) ∈ fs.take k) with hs | hs
    · rw [decide_eq_true hs]
      (repeat with_reducible first|refine z_a ?_|refine z_b ?_|refine z_c ?_|refine z_d ?_|refine z_e ?_|refine z_f ?_|refine z_g ?_|refine z_h ?_|refine z_i ?_|refine z_j ?_|refine z_k ?_|refine z_l ?_|refine z_m (by omega) ?_|refine z_n (by omega) ?_|refine z_o (by omega) ?_|refine z_p (by omega) ?_|refine z_q (by omega) ?_|refine z_r (by omega) ?_|refine z_s (by omega) ?_|refine z_t (by omega) ?_|refine z_u (by omega) ?_|refine z_v (by omega) ?_|refine z_w (by omega) ?_|refine z_x (by omega) ?_|refine z_y (by omega) ?_|refine z_z (by omega) ?_|refine z_A ?_|refine z_B ?_|refine z_C ?_|refine z_D ?_|refine z_E ?_|refine z_F ?_|refine z_G ?_|refine z_H ?_|refine z_I ?_)
      exact ⟨by rw [bad (J := True) (.inr (.inr (by rw [hin]; exact hs)))], below_then hb1 hb5⟩
    · rw [decide_eq_false hs] at hcs ⊢
      (repeat with_reducible first|refine z_a ?_|refine z_b ?_|refine z_c ?_|refine z_d ?_|refine z_e ?_|refine z_f ?_|refine z_g ?_|refine z_h ?_|refine z_i ?_|refine z_j ?_|refine z_k ?_|refine z_l ?_|refine z_m (by omega) ?_|refine z_n (by omega) ?_|refine z_o (by omega) ?_|refine z_p (by omega) ?_|refine z_q (by omega) ?_|refine z_r (by omega) ?_|refine z_s (by omega) ?_|refine z_t (by omega) ?_|refine z_u (by omega) ?_|refine z_v (by omega) ?_|refine z_w (by omega) ?_|refine z_x (by omega) ?_|refine z_y (by omega) ?_|refine z_z (by omega) ?_|refine z_A ?_|refine z_B ?_|refine z_C ?_|refine z_D ?_|refine z_E ?_|refine z_F ?_|refine z_G ?_|refine z_H ?_|refine z_I ?_)
      refine ixB undSe szBo hi ?_
      refine st szBo rfl (by rw [hcs]; rfl) (hB5.frozen i) ?_
      have hB6 := hB5.set_ i (.bool true)
      rw [seen_set _ i hi] at hB6
      have hT6 := Turns.setCell (F := fun j => j = g4) (p := ⟨g4, i, none⟩) (Turns.refl _ w5) (.inl rfl) (.bool true)
      have hb6 := below_own hb5 hT6 (by omega)
      have hf6 := ckF_take hk' (by omega) (by omega) (by rw [hin]; exact hs) hno
      have e6 : fs.take k ++ [(i : Int)] = fs.take (k + 1) := by rw [List.take_succ_eq_append_getElem hk', hin]
      rw [e6] at hB6
      (repeat with_reducible first|refine z_a ?_|refine z_b ?_|refine z_c ?_|refine z_d ?_|refine z_e ?_|refine z_f ?_|refine z_g ?_|refine z_h ?_|refine z_i ?_|refine z_j ?_|refine z_k ?_|refine z_l ?_|refine z_m (by omega) ?_|refine z_n (by omega) ?_|refine z_o (by omega) ?_|refine z_p (by omega) ?_|refine z_q (by omega) ?_|refine z_r (by omega) ?_|refine z_s (by omega) ?_|refine z_t (by omega) ?_|refine z_u (by omega) ?_|refine z_v (by omega) ?_|refine z_w (by omega) ?_|refine z_x (by omega) ?_|refine z_y (by omega) ?_|refine z_z (by omega) ?_|refine z_A ?_|refine z_B ?_|refine z_C ?_|refine z_D ?_|refine z_E ?_|refine z_F ?_|refine z_G ?_|refine z_H ?_|refine z_I ?_)
      exact hJ _ _ ⟨k + 1, by omega, by simp, hf6, hB6, hb6⟩ (by simp [intOf]; omega)
  · have : k = fs.length := by omega
    subst this
    rw [List.take_length] at hno
    (repeat with_reducible first|refine z_a ?_|refine z_b ?_|refine z_c ?_|refine z_d ?_|refine z_e ?_|refine z_f ?_|refine z_g ?_|refine z_h ?_|refine z_i ?_|refine z_j ?_|refine z_k ?_|refine z_l ?_|refine z_m (by omega) ?_|refine z_n (by omega) ?_|refine z_o (by omega) ?_|refine z_p (by omega) ?_|refine z_q (by omega) ?_|refine z_r (by omega) ?_|refine z_s (by omega) ?_|refine z_t (by omega) ?_|refine z_u (by omega) ?_|refine z_v (by omega) ?_|refine z_w (by omega) ?_|refine z_x (by omega) ?_|refine z_y (by omega) ?_|refine z_z (by omega) ?_|refine z_A ?_|refine z_B ?_|refine z_C ?_|refine z_D ?_|refine z_E ?_|refine z_F ?_|refine z_G ?_|refine z_H ?_|refine z_I ?_)
    refine ⟨?_, below_then hb1 hb5⟩
    unfold ckX ckI
    rw [if_pos hid, if_neg (by intro e; rw [e] at hl1; simp at hl1), if_neg (by omega), if_pos hno]
end Go.Proofs.Ytcfncjejpjjhdaa.E
namespace Go.Proofs.Ytcfncjejpjjhdaa.E
open Go Go.RowKit
set_option linter.unusedSimpArgs false
set_option linter.unusedVariables false

theorem RdKeep {w : World} {a : Addr} {u : Value} (h : w.cell? a = some u) : ∀ w', Below w.heap.size w w' → w'.cell? a = some u := fun w' hb => by rw [hb.cell (World.block_lt_of_cell? _ _ h), h]
theorem CheckIndex34 (id : Int) (vf : Value) (fs : List Int) (w : World) (hv : Rd w vf (iV fs)) : CallP Try.prog 34 #[.agg #[.int .i64 id, vf]] (fun r w' => r = .int .i64 (ckX id fs) ∧ Below w.heap.size w w') w := by
  obtain ⟨A, c, rfl, hc, hm⟩ := hv.slice
  have hlen : (iV fs).length = fs.length := List.length_map _
  rw [hlen] at hv hc ⊢
  refine ⟨S34.calls _ _ _ ?_⟩
  unfold S34
  refine bxB ?_
  intro g1 w1 hg1 hB1 hb1
  have q0 : ∀ w', Below w1.heap.size w1 w' → w'.cell? ⟨g1, 0, none⟩ = some (.int .i64 id) := fun w' h => (hB1.below' h).cell 0
  have q1 : ∀ w', Below w1.heap.size w1 w' → w'.cell? ⟨g1, 1, none⟩ = some (.slice A fs.length c) := fun w' h => (hB1.below' h).cell 1
  have hr := Below.refl w1.heap.size w1
  have hnil : fs = [] ↔ fs.length = 0 := List.length_eq_zero_iff.symm
  (repeat with_reducible first | refine fd x0 (by decide) ?_| refine ld oneI (q0 _ hr) ?_|refine z_a ?_|refine z_b ?_|refine z_c ?_|refine z_d ?_|refine z_e ?_|refine z_f ?_|refine z_g ?_|refine z_h ?_|refine z_i ?_|refine z_j ?_|refine z_k ?_|refine z_l ?_|refine z_m (by omega) ?_|refine z_n (by omega) ?_|refine z_o (by omega) ?_|refine z_p (by omega) ?_|refine z_q (by omega) ?_|refine z_r (by omega) ?_|refine z_s (by omega) ?_|refine z_t (by omega) ?_|refine z_u (by omega) ?_|refine z_v (by omega) ?_|refine z_w (by omega) ?_|refine z_x (by omega) ?_|refine z_y (by omega) ?_|refine z_z (by omega) ?_|refine z_A ?_|refine z_B ?_|refine z_C ?_|refine z_D ?_|refine z_E ?_|refine z_F ?_|refine z_G ?_|refine z_H ?_|refine z_I ?_)
  refine bi_lss_c (fun h1 => ?_) (fun h1 => ?_)
  · (repeat with_reducible first|refine z_a ?_|refine z_b ?_|refine z_c ?_|refine z_d ?_|refine z_e ?_|refine z_f ?_|refine z_g ?_|refine z_h ?_|refine z_i ?_|refine z_j ?_|refine z_k ?_|refine z_l ?_|refine z_m (by omega) ?_|refine z_n (by omega) ?_|refine z_o (by omega) ?_|refine z_p (by omega) ?_|refine z_q (by omega) ?_|refine z_r (by omega) ?_|refine z_s (by omega) ?_|refine z_t (by omega) ?_|refine z_u (by omega) ?_|refine z_v (by omega) ?_|refine z_w (by omega) ?_|refine z_x (by omega) ?_|refine z_y (by omega) ?_|refine z_z (by omega) ?_|refine z_A ?_|refine z_B ?_|refine z_C ?_|refine z_D ?_|refine z_E ?_|refine z_F ?_|refine z_G ?_|refine z_H ?_|refine z_I ?_)
    exact ⟨by unfold ckX; rw [if_neg (by omega)], hb1⟩
  (repeat with_reducible first | refine fd x0 (by decide) ?_| refine ld oneI (q0 _ hr) ?_|refine z_a ?_|refine z_b ?_|refine z_c ?_|refine z_d ?_|refine z_e ?_|refine z_f ?_|refine z_g ?_|refine z_h ?_|refine z_i ?_|refine z_j ?_|refine z_k ?_|refine z_l ?_|refine z_m (by omega) ?_|refine z_n (by omega) ?_|refine z_o (by omega) ?_|refine z_p (by omega) ?_|refine z_q (by omega) ?_|refine z_r (by omega) ?_|refine z_s (by omega) ?_|refine z_t (by omega) ?_|refine z_u (by omega) ?_|refine z_v (by omega) ?_|refine z_w (by omega) ?_|refine z_x (by omega) ?_|refine z_y (by omega) ?_|refine z_z (by omega) ?_|refine z_A ?_|refine z_B ?_|refine z_C ?_|refine z_D ?_|refine z_E ?_|refine z_F ?_|refine z_G ?_|refine z_H ?_|refine z_I ?_)
  refine bi_gtr_c (fun h2 => ?_) (fun h2 => ?_)
  · (repeat with_reducible first|refine z_a ?_|refine z_b ?_|refine z_c ?_|refine z_d ?_|refine z_e ?_|refine z_f ?_|refine z_g ?_|refine z_h ?_|refine z_i ?_|refine z_j ?_|refine z_k ?_|refine z_l ?_|refine z_m (by omega) ?_|refine z_n (by omega) ?_|refine z_o (by omega) ?_|refine z_p (by omega) ?_|refine z_q (by omega) ?_|refine z_r (by omega) ?_|refine z_s (by omega) ?_|refine z_t (by omega) ?_|refine z_u (by omega) ?_|refine z_v (by omega) ?_|refine z_w (by omega) ?_|refine z_x (by omega) ?_|refine z_y (by omega) ?_|refine z_z (by omega) ?_|refine z_A ?_|refine z_B ?_|refine z_C ?_|refine z_D ?_|refine z_E ?_|refine z_F ?_|refine z_G ?_|refine z_H ?_|refine z_I ?_)
    exact ⟨by unfold ckX; rw [if_neg (by omega)], hb1⟩
  have hid : 1 ≤ id ∧ id ≤ 6 := by omega
  (repeat with_reducible first | refine fd x1 (by decide) ?_| refine ld oneIs (q1 _ hr) ?_| refine ln undIs ?_|refine z_a ?_|refine z_b ?_|refine z_c ?_|refine z_d ?_|refine z_e ?_|refine z_f ?_|refine z_g ?_|refine z_h ?_|refine z_i ?_|refine z_j ?_|refine z_k ?_|refine z_l ?_|refine z_m (by omega) ?_|refine z_n (by omega) ?_|refine z_o (by omega) ?_|refine z_p (by omega) ?_|refine z_q (by omega) ?_|refine z_r (by omega) ?_|refine z_s (by omega) ?_|refine z_t (by omega) ?_|refine z_u (by omega) ?_|refine z_v (by omega) ?_|refine z_w (by omega) ?_|refine z_x (by omega) ?_|refine z_y (by omega) ?_|refine z_z (by omega) ?_|refine z_A ?_|refine z_B ?_|refine z_C ?_|refine z_D ?_|refine z_E ?_|refine z_F ?_|refine z_G ?_|refine z_H ?_|refine z_I ?_)
  refine bi_eql_c (fun h3 => ?_) (fun h3 => ?_)
  · (repeat with_reducible first|refine z_a ?_|refine z_b ?_|refine z_c ?_|refine z_d ?_|refine z_e ?_|refine z_f ?_|refine z_g ?_|refine z_h ?_|refine z_i ?_|refine z_j ?_|refine z_k ?_|refine z_l ?_|refine z_m (by omega) ?_|refine z_n (by omega) ?_|refine z_o (by omega) ?_|refine z_p (by omega) ?_|refine z_q (by omega) ?_|refine z_r (by omega) ?_|refine z_s (by omega) ?_|refine z_t (by omega) ?_|refine z_u (by omega) ?_|refine z_v (by omega) ?_|refine z_w (by omega) ?_|refine z_x (by omega) ?_|refine z_y (by omega) ?_|refine z_z (by omega) ?_|refine z_A ?_|refine z_B ?_|refine z_C ?_|refine z_D ?_|refine z_E ?_|refine z_F ?_|refine z_G ?_|refine z_H ?_|refine z_I ?_)
    exact ⟨by unfold ckX ckI; rw [if_pos hid, if_pos (hnil.2 (by omega))], hb1⟩
  (repeat with_reducible first | refine fd x1 (by decide) ?_| refine ld oneIs (q1 _ hr) ?_| refine ln undIs ?_|refine z_a ?_|refine z_b ?_|refine z_c ?_|refine z_d ?_|refine z_e ?_|refine z_f ?_|refine z_g ?_|refine z_h ?_|refine z_i ?_|refine z_j ?_|refine z_k ?_|refine z_l ?_|refine z_m (by omega) ?_|refine z_n (by omega) ?_|refine z_o (by omega) ?_|refine z_p (by omega) ?_|refine z_q (by omega) ?_|refine z_r (by omega) ?_|refine z_s (by omega) ?_|refine z_t (by omega) ?_|refine z_u (by omega) ?_|refine z_v (by omega) ?_|refine z_w (by omega) ?_|refine z_x (by omega) ?_|refine z_y (by omega) ?_|refine z_z (by omega) ?_|refine z_A ?_|refine z_B ?_|refine z_C ?_|refine z_D ?_|refine z_E ?_|refine z_F ?_|refine z_G ?_|refine z_H ?_|refine z_I ?_)
  refine bi_gtr_c (fun h4 => ?_) (fun h4 => ?_)
  · (repeat with_reducible first|refine z_a ?_|refine z_b ?_|refine z_c ?_|refine z_d ?_|refine z_e ?_|refine z_f ?_|refine z_g ?_|refine z_h ?_|refine z_i ?_|refine z_j ?_|refine z_k ?_|refine z_l ?_|refine z_m (by omega) ?_|refine z_n (by omega) ?_|refine z_o (by omega) ?_|refine z_p (by omega) ?_|refine z_q (by omega) ?_|refine z_r (by omega) ?_|refine z_s (by omega) ?_|refine z_t (by omega) ?_|refine z_u (by omega) ?_|refine z_v (by omega) ?_|refine z_w (by omega) ?_|refine z_x (by omega) ?_|refine z_y (by omega) ?_|refine z_z (by omega) ?_|refine z_A ?_|refine z_B ?_|refine z_C ?_|refine z_D ?_|refine z_E ?_|refine z_F ?_|refine z_G ?_|refine z_H ?_|refine z_I ?_)
    exact ⟨by unfold ckX ckI; rw [if_pos hid, if_neg (fun e => h3 (by have := hnil.1 e; omega)), if_pos (by omega)], hb1⟩
  (repeat with_reducible first|refine z_a ?_|refine z_b ?_|refine z_c ?_|refine z_d ?_|refine z_e ?_|refine z_f ?_|refine z_g ?_|refine z_h ?_|refine z_i ?_|refine z_j ?_|refine z_k ?_|refine z_l ?_|refine z_m (by omega) ?_|refine z_n (by omega) ?_|refine z_o (by omega) ?_|refine z_p (by omega) ?_|refine z_q (by omega) ?_|refine z_r (by omega) ?_|refine z_s (by omega) ?_|refine z_t (by omega) ?_|refine z_u (by omega) ?_|refine z_v (by omega) ?_|refine z_w (by omega) ?_|refine z_x (by omega) ?_|refine z_y (by omega) ?_|refine z_z (by omega) ?_|refine z_A ?_|refine z_B ?_|refine z_C ?_|refine z_D ?_|refine z_E ?_|refine z_F ?_|refine z_G ?_|refine z_H ?_|refine z_I ?_)
  have hne : ¬ fs = [] := fun e => h3 (by have := hnil.1 e; omega)
  refine LoopP.inv1 (fun iv w' => ∃ k : Nat, k ≤ fs.length ∧ iv = .int .i64 k ∧ ckF (fs.take k) ∧ Below w1.heap.size w1 w') (fun iv _ => fs.length - (intOf iv).toNat) ⟨0, by omega, rfl, ⟨by simp, by simp⟩, Below.refl _ _⟩ ?_
  rintro _ w2 ⟨k, hk, rfl, hno, hb2⟩ J hJ
  dsimp only [List.headD_cons, List.tail_cons]
  (repeat with_reducible first | refine fd x1 (by decide) ?_| refine ld oneIs (q1 _ hb2) ?_| refine ln undIs ?_|refine z_a ?_|refine z_b ?_|refine z_c ?_|refine z_d ?_|refine z_e ?_|refine z_f ?_|refine z_g ?_|refine z_h ?_|refine z_i ?_|refine z_j ?_|refine z_k ?_|refine z_l ?_|refine z_m (by omega) ?_|refine z_n (by omega) ?_|refine z_o (by omega) ?_|refine z_p (by omega) ?_|refine z_q (by omega) ?_|refine z_r (by omega) ?_|refine z_s (by omega) ?_|refine z_t (by omega) ?_|refine z_u (by omega) ?_|refine z_v (by omega) ?_|refine z_w (by omega) ?_|refine z_x (by omega) ?_|refine z_y (by omega) ?_|refine z_z (by omega) ?_|refine z_A ?_|refine z_B ?_|refine z_C ?_|refine z_D ?_|refine z_E ?_|refine z_F ?_|refine z_G ?_|refine z_H ?_|refine z_I ?_)
  refine bi_lss_c (fun h5 => ?_) (fun h5 => ?_)
  · have hk' : k < fs.length := by omega
    have hdr : Below w2.heap.size w2 w2.drew := (Below.refl _ _).drew
    have hb3 := below_then hb2 hdr
    have bad : (fs[k] < 0 ∨ 4 ≤ fs[k] ∨ fs[k] ∈ fs.take k) → ckX id fs = 1 := fun h => by
      unfold ckX ckI
      rw [if_pos hid, if_neg hne, if_neg (by omega), if_neg (ckF_not hk' h)]
    obtain ⟨a, rfl, hca⟩ := Rd.atI (hv.below hb1) k hk'
    have kk := RdKeep hca
    (repeat with_reducible first|refine z_a ?_|refine z_b ?_|refine z_c ?_|refine z_d ?_|refine z_e ?_|refine z_f ?_|refine z_g ?_|refine z_h ?_|refine z_i ?_|refine z_j ?_|refine z_k ?_|refine z_l ?_|refine z_m (by omega) ?_|refine z_n (by omega) ?_|refine z_o (by omega) ?_|refine z_p (by omega) ?_|refine z_q (by omega) ?_|refine z_r (by omega) ?_|refine z_s (by omega) ?_|refine z_t (by omega) ?_|refine z_u (by omega) ?_|refine z_v (by omega) ?_|refine z_w (by omega) ?_|refine z_x (by omega) ?_|refine z_y (by omega) ?_|refine z_z (by omega) ?_|refine z_A ?_|refine z_B ?_|refine z_C ?_|refine z_D ?_|refine z_E ?_|refine z_F ?_|refine z_G ?_|refine z_H ?_|refine z_I ?_)
    refine draw (Below w1.heap.size w1) hb3 ?_
    generalize w2.drew = w3 at *
    (repeat with_reducible first | refine yfd x1 (by decide) ?_| refine yl1 oneIs q1 ?_| refine yix1 undIs szI k hk' ?_| refine yl1 oneI kk ?_|refine z_J ?_|refine z_a ?_|refine z_b ?_|refine z_c ?_|refine z_d ?_|refine z_e ?_|refine z_f ?_|refine z_g ?_|refine z_h ?_|refine z_i ?_|refine z_j ?_|refine z_k ?_|refine z_l ?_|refine z_K (by omega) ?_|refine z_L (by omega) ?_|refine z_M (by omega) ?_|refine z_N (by omega) ?_|refine z_O (by omega) ?_|refine z_P (by omega) ?_|refine z_Q (by omega) ?_|refine z_R (by omega) ?_|refine z_S (by omega) ?_|refine z_T (by omega) ?_|refine z_U (by omega) ?_|refine z_V (by omega) ?_|refine z_W (by omega) ?_|refine z_X (by omega) ?_|refine z_Y ?_|refine z_Z ?_|refine z_a1 ?_|refine z_b1 ?_|refine z_c1 ?_|refine z_d1 ?_|refine z_e1 ?_|refine z_f1 ?_|refine z_g1 ?_)
    refine yi_lss_c (fun h6 => ?_) (fun h6 => ?_)
    · (repeat with_reducible first|refine z_J ?_|refine z_a ?_|refine z_b ?_|refine z_c ?_|refine z_d ?_|refine z_e ?_|refine z_f ?_|refine z_g ?_|refine z_h ?_|refine z_i ?_|refine z_j ?_|refine z_k ?_|refine z_l ?_|refine z_K (by omega) ?_|refine z_L (by omega) ?_|refine z_M (by omega) ?_|refine z_N (by omega) ?_|refine z_O (by omega) ?_|refine z_P (by omega) ?_|refine z_Q (by omega) ?_|refine z_R (by omega) ?_|refine z_S (by omega) ?_|refine z_T (by omega) ?_|refine z_U (by omega) ?_|refine z_V (by omega) ?_|refine z_W (by omega) ?_|refine z_X (by omega) ?_|refine z_Y ?_|refine z_Z ?_|refine z_a1 ?_|refine z_b1 ?_|refine z_c1 ?_|refine z_d1 ?_|refine z_e1 ?_|refine z_f1 ?_|refine z_g1 ?_)
      (repeat with_reducible first|refine z_a ?_|refine z_b ?_|refine z_c ?_|refine z_d ?_|refine z_e ?_|refine z_f ?_|refine z_g ?_|refine z_h ?_|refine z_i ?_|refine z_j ?_|refine z_k ?_|refine z_l ?_|refine z_m (by omega) ?_|refine z_n (by omega) ?_|refine z_o (by omega) ?_|refine z_p (by omega) ?_|refine z_q (by omega) ?_|refine z_r (by omega) ?_|refine z_s (by omega) ?_|refine z_t (by omega) ?_|refine z_u (by omega) ?_|refine z_v (by omega) ?_|refine z_w (by omega) ?_|refine z_x (by omega) ?_|refine z_y (by omega) ?_|refine z_z (by omega) ?_|refine z_A ?_|refine z_B ?_|refine z_C ?_|refine z_D ?_|refine z_E ?_|refine z_F ?_|refine z_G ?_|refine z_H ?_|refine z_I ?_)
      exact ⟨by rw [bad (.inl h6)], below_then hb1 hb3⟩
    (repeat with_reducible first | refine yfd x1 (by decide) ?_| refine yl1 oneIs q1 ?_| refine yix1 undIs szI k hk' ?_| refine yl1 oneI kk ?_|refine z_J ?_|refine z_a ?_|refine z_b ?_|refine z_c ?_|refine z_d ?_|refine z_e ?_|refine z_f ?_|refine z_g ?_|refine z_h ?_|refine z_i ?_|refine z_j ?_|refine z_k ?_|refine z_l ?_|refine z_K (by omega) ?_|refine z_L (by omega) ?_|refine z_M (by omega) ?_|refine z_N (by omega) ?_|refine z_O (by omega) ?_|refine z_P (by omega) ?_|refine z_Q (by omega) ?_|refine z_R (by omega) ?_|refine z_S (by omega) ?_|refine z_T (by omega) ?_|refine z_U (by omega) ?_|refine z_V (by omega) ?_|refine z_W (by omega) ?_|refine z_X (by omega) ?_|refine z_Y ?_|refine z_Z ?_|refine z_a1 ?_|refine z_b1 ?_|refine z_c1 ?_|refine z_d1 ?_|refine z_e1 ?_|refine z_f1 ?_|refine z_g1 ?_)
    refine yi_gtr_c (fun h7 => ?_) (fun h7 => ?_)
    · (repeat with_reducible first|refine z_J ?_|refine z_a ?_|refine z_b ?_|refine z_c ?_|refine z_d ?_|refine z_e ?_|refine z_f ?_|refine z_g ?_|refine z_h ?_|refine z_i ?_|refine z_j ?_|refine z_k ?_|refine z_l ?_|refine z_K (by omega) ?_|refine z_L (by omega) ?_|refine z_M (by omega) ?_|refine z_N (by omega) ?_|refine z_O (by omega) ?_|refine z_P (by omega) ?_|refine z_Q (by omega) ?_|refine z_R (by omega) ?_|refine z_S (by omega) ?_|refine z_T (by omega) ?_|refine z_U (by omega) ?_|refine z_V (by omega) ?_|refine z_W (by omega) ?_|refine z_X (by omega) ?_|refine z_Y ?_|refine z_Z ?_|refine z_a1 ?_|refine z_b1 ?_|refine z_c1 ?_|refine z_d1 ?_|refine z_e1 ?_|refine z_f1 ?_|refine z_g1 ?_)
      (repeat with_reducible first|refine z_a ?_|refine z_b ?_|refine z_c ?_|refine z_d ?_|refine z_e ?_|refine z_f ?_|refine z_g ?_|refine z_h ?_|refine z_i ?_|refine z_j ?_|refine z_k ?_|refine z_l ?_|refine z_m (by omega) ?_|refine z_n (by omega) ?_|refine z_o (by omega) ?_|refine z_p (by omega) ?_|refine z_q (by omega) ?_|refine z_r (by omega) ?_|refine z_s (by omega) ?_|refine z_t (by omega) ?_|refine z_u (by omega) ?_|refine z_v (by omega) ?_|refine z_w (by omega) ?_|refine z_x (by omega) ?_|refine z_y (by omega) ?_|refine z_z (by omega) ?_|refine z_A ?_|refine z_B ?_|refine z_C ?_|refine z_D ?_|refine z_E ?_|refine z_F ?_|refine z_G ?_|refine z_H ?_|refine z_I ?_)
      exact ⟨by rw [bad (.inr (.inl (by omega)))], below_then hb1 hb3⟩
    have hk2 : k = 0 ∨ k = 1 := by omega
    rcases hk2 with rfl | rfl
    · (repeat with_reducible first | refine yfd x1 (by decide) ?_| refine yl1 oneIs q1 ?_|refine z_J ?_|refine z_a ?_|refine z_b ?_|refine z_c ?_|refine z_d ?_|refine z_e ?_|refine z_f ?_|refine z_g ?_|refine z_h ?_|refine z_i ?_|refine z_j ?_|refine z_k ?_|refine z_l ?_|refine z_K (by omega) ?_|refine z_L (by omega) ?_|refine z_M (by omega) ?_|refine z_N (by omega) ?_|refine z_O (by omega) ?_|refine z_P (by omega) ?_|refine z_Q (by omega) ?_|refine z_R (by omega) ?_|refine z_S (by omega) ?_|refine z_T (by omega) ?_|refine z_U (by omega) ?_|refine z_V (by omega) ?_|refine z_W (by omega) ?_|refine z_X (by omega) ?_|refine z_Y ?_|refine z_Z ?_|refine z_a1 ?_|refine z_b1 ?_|refine z_c1 ?_|refine z_d1 ?_|refine z_e1 ?_|refine z_f1 ?_|refine z_g1 ?_)
      (repeat with_reducible first|refine z_a ?_|refine z_b ?_|refine z_c ?_|refine z_d ?_|refine z_e ?_|refine z_f ?_|refine z_g ?_|refine z_h ?_|refine z_i ?_|refine z_j ?_|refine z_k ?_|refine z_l ?_|refine z_m (by omega) ?_|refine z_n (by omega) ?_|refine z_o (by omega) ?_|refine z_p (by omega) ?_|refine z_q (by omega) ?_|refine z_r (by omega) ?_|refine z_s (by omega) ?_|refine z_t (by omega) ?_|refine z_u (by omega) ?_|refine z_v (by omega) ?_|refine z_w (by omega) ?_|refine z_x (by omega) ?_|refine z_y (by omega) ?_|refine z_z (by omega) ?_|refine z_A ?_|refine z_B ?_|refine z_C ?_|refine z_D ?_|refine z_E ?_|refine z_F ?_|refine z_G ?_|refine z_H ?_|refine z_I ?_)
      exact hJ _ _ ⟨1, by omega, by simp, ckF_take hk' (by omega) (by omega) (by simp) hno, hb3⟩ (by simp [intOf]; omega)
    · obtain ⟨a', ha', hca'⟩ := Rd.atI (hv.below hb1) 0 (by omega)
      cases ha'
      have kk' := RdKeep hca'
      (repeat with_reducible first | refine yfd x1 (by decide) ?_| refine yl1 oneIs q1 ?_|refine z_J ?_|refine z_a ?_|refine z_b ?_|refine z_c ?_|refine z_d ?_|refine z_e ?_|refine z_f ?_|refine z_g ?_|refine z_h ?_|refine z_i ?_|refine z_j ?_|refine z_k ?_|refine z_l ?_|refine z_K (by omega) ?_|refine z_L (by omega) ?_|refine z_M (by omega) ?_|refine z_N (by omega) ?_|refine z_O (by omega) ?_|refine z_P (by omega) ?_|refine z_Q (by omega) ?_|refine z_R (by omega) ?_|refine z_S (by omega) ?_|refine z_T (by omega) ?_|refine z_U (by omega) ?_|refine z_V (by omega) ?_|refine z_W (by omega) ?_|refine z_X (by omega) ?_|refine z_Y ?_|refine z_Z ?_|refine z_a1 ?_|refine z_b1 ?_|refine z_c1 ?_|refine z_d1 ?_|refine z_e1 ?_|refine z_f1 ?_|refine z_g1 ?_)
      refine yix1 undIs szI 0 (by omega) ?_
      (repeat with_reducible first|refine z_J ?_|refine z_a ?_|refine z_b ?_|refine z_c ?_|refine z_d ?_|refine z_e ?_|refine z_f ?_|refine z_g ?_|refine z_h ?_|refine z_i ?_|refine z_j ?_|refine z_k ?_|refine z_l ?_|refine z_K (by omega) ?_|refine z_L (by omega) ?_|refine z_M (by omega) ?_|refine z_N (by omega) ?_|refine z_O (by omega) ?_|refine z_P (by omega) ?_|refine z_Q (by omega) ?_|refine z_R (by omega) ?_|refine z_S (by omega) ?_|refine z_T (by omega) ?_|refine z_U (by omega) ?_|refine z_V (by omega) ?_|refine z_W (by omega) ?_|refine z_X (by omega) ?_|refine z_Y ?_|refine z_Z ?_|refine z_a1 ?_|refine z_b1 ?_|refine z_c1 ?_|refine z_d1 ?_|refine z_e1 ?_|refine z_f1 ?_|refine z_g1 ?_)
      refine yl1 oneI kk' ?_
      (repeat with_reducible first | refine yfd x1 (by decide) ?_| refine yl1 oneIs q1 ?_|refine z_J ?_|refine z_a ?_|refine z_b ?_|refine z_c ?_|refine z_d ?_|refine z_e ?_|refine z_f ?_|refine z_g ?_|refine z_h ?_|refine z_i ?_|refine z_j ?_|refine z_k ?_|refine z_l ?_|refine z_K (by omega) ?_|refine z_L (by omega) ?_|refine z_M (by omega) ?_|refine z_N (by omega) ?_|refine z_O (by omega) ?_|refine z_P (by omega) ?_|refine z_Q (by omega) ?_|refine z_R (by omega) ?_|refine z_S (by omega) ?_|refine z_T (by omega) ?_|refine z_U (by omega) ?_|refine z_V (by omega) ?_|refine z_W (by omega) ?_|refine z_X (by omega) ?_|refine z_Y ?_|refine z_Z ?_|refine z_a1 ?_|refine z_b1 ?_|refine z_c1 ?_|refine z_d1 ?_|refine z_e1 ?_|refine z_f1 ?_|refine z_g1 ?_)
      refine yix1 undIs szI 1 (by omega) ?_
      (repeat with_reducible first|refine z_J ?_|refine z_a ?_|refine z_b ?_|refine z_c ?_|refine z_d ?_|refine z_e ?_|refine z_f ?_|refine z_g ?_|refine z_h ?_|refine z_i ?_|refine z_j ?_|refine z_k ?_|refine z_l ?_|refine z_K (by omega) ?_|refine z_L (by omega) ?_|refine z_M (by omega) ?_|refine z_N (by omega) ?_|refine z_O (by omega) ?_|refine z_P (by omega) ?_|refine z_Q (by omega) ?_|refine z_R (by omega) ?_|refine z_S (by omega) ?_|refine z_T (by omega) ?_|refine z_U (by omega) ?_|refine z_V (by omega) ?_|refine z_W (by omega) ?_|refine z_X (by omega) ?_|refine z_Y ?_|refine z_Z ?_|refine z_a1 ?_|refine z_b1 ?_|refine z_c1 ?_|refine z_d1 ?_|refine z_e1 ?_|refine z_f1 ?_|refine z_g1 ?_)
      refine yl1 oneI kk ?_
      (repeat with_reducible first|refine z_J ?_|refine z_a ?_|refine z_b ?_|refine z_c ?_|refine z_d ?_|refine z_e ?_|refine z_f ?_|refine z_g ?_|refine z_h ?_|refine z_i ?_|refine z_j ?_|refine z_k ?_|refine z_l ?_|refine z_K (by omega) ?_|refine z_L (by omega) ?_|refine z_M (by omega) ?_|refine z_N (by omega) ?_|refine z_O (by omega) ?_|refine z_P (by omega) ?_|refine z_Q (by omega) ?_|refine z_R (by omega) ?_|refine z_S (by omega) ?_|refine z_T (by omega) ?_|refine z_U (by omega) ?_|refine z_V (by omega) ?_|refine z_W (by omega) ?_|refine z_X (by omega) ?_|refine z_Y ?_|refine z_Z ?_|refine z_a1 ?_|refine z_b1 ?_|refine z_c1 ?_|refine z_d1 ?_|refine z_e1 ?_|refine z_f1 ?_|refine z_g1 ?_)
      refine yi_eql_c (fun h8 => ?_) (fun h8 => ?_)
      · (repeat with_reducible first|refine z_J ?_|refine z_a ?_|refine z_b ?_|refine z_c ?_|refine z_d ?_|refine z_e ?_|refine z_f ?_|refine z_g ?_|refine z_h ?_|refine z_i ?_|refine z_j ?_|refine z_k ?_|refine z_l ?_|refine z_K (by omega) ?_|refine z_L (by omega) ?_|refine z_M (by omega) ?_|refine z_N (by omega) ?_|refine z_O (by omega) ?_|refine z_P (by omega) ?_|refine z_Q (by omega) ?_|refine z_R (by omega) ?_|refine z_S (by omega) ?_|refine z_T (by omega) ?_|refine z_U (by omega) ?_|refine z_V (by omega) ?_|refine z_W (by omega) ?_|refine z_X (by omega) ?_|refine z_Y ?_|refine z_Z ?_|refine z_a1 ?_|refine z_b1 ?_|refine z_c1 ?_|refine z_d1 ?_|refine z_e1 ?_|refine z_f1 ?_|refine z_g1 ?_)
        (repeat with_reducible first|refine z_a ?_|refine z_b ?_|refine z_c ?_|refine z_d ?_|refine z_e ?_|refine z_f ?_|refine z_g ?_|refine z_h ?_|refine z_i ?_|refine z_j ?_|refine z_k ?_|refine z_l ?_|refine z_m (by omega) ?_|refine z_n (by omega) ?_|refine z_o (by omega) ?_|refine z_p (by omega) ?_|refine z_q (by omega) ?_|refine z_r (by omega) ?_|refine z_s (by omega) ?_|refine z_t (by omega) ?_|refine z_u (by omega) ?_|refine z_v (by omega) ?_|refine z_w (by omega) ?_|refine z_x (by omega) ?_|refine z_y (by omega) ?_|refine z_z (by omega) ?_|refine z_A ?_|refine z_B ?_|refine z_C ?_|refine z_D ?_|refine z_E ?_|refine z_F ?_|refine z_G ?_|refine z_H ?_|refine z_I ?_)
        refine ⟨?_, below_then hb1 hb3⟩
        rw [bad (.inr (.inr ?_))]
        rw [List.take_succ_eq_append_getElem (show 0 < fs.length by omega)]
        simp [h8]
      · (repeat with_reducible first|refine z_J ?_|refine z_a ?_|refine z_b ?_|refine z_c ?_|refine z_d ?_|refine z_e ?_|refine z_f ?_|refine z_g ?_|refine z_h ?_|refine z_i ?_|refine z_j ?_|refine z_k ?_|refine z_l ?_|refine z_K (by omega) ?_|refine z_L (by omega) ?_|refine z_M (by omega) ?_|refine z_N (by omega) ?_|refine z_O (by omega) ?_|refine z_P (by omega) ?_|refine z_Q (by omega) ?_|refine z_R (by omega) ?_|refine z_S (by omega) ?_|refine z_T (by omega) ?_|refine z_U (by omega) ?_|refine z_V (by omega) ?_|refine z_W (by omega) ?_|refine z_X (by omega) ?_|refine z_Y ?_|refine z_Z ?_|refine z_a1 ?_|refine z_b1 ?_|refine z_c1 ?_|refine z_d1 ?_|refine z_e1 ?_|refine z_f1 ?_|refine z_g1 ?_)
        (repeat with_reducible first|refine z_a ?_|refine z_b ?_|refine z_c ?_|refine z_d ?_|refine z_e ?_|refine z_f ?_|refine z_g ?_|refine z_h ?_|refine z_i ?_|refine z_j ?_|refine z_k ?_|refine z_l ?_|refine z_m (by omega) ?_|refine z_n (by omega) ?_|refine z_o (by omega) ?_|refine z_p (by omega) ?_|refine z_q (by omega) ?_|refine z_r (by omega) ?_|refine z_s (by omega) ?_|refine z_t (by omega) ?_|refine z_u (by omega) ?_|refine z_v (by omega) ?_|refine z_w (by omega) ?_|refine z_x (by omega) ?_|refine z_y (by omega) ?_|refine z_z (by omega) ?_|refine z_A ?_|refine z_B ?_|refine z_C ?_|refine z_D ?_|refine z_E ?_|refine z_F ?_|refine z_G ?_|refine z_H ?_|refine z_I ?_)
        refine hJ _ _ ⟨1 + 1, by omega, by simp, ckF_take hk' (by omega) (by omega) ?_ hno, hb3⟩ (by simp [intOf]; omega)
        rw [List.take_succ_eq_append_getElem (show 0 < fs.length by omega)]
        simp only [List.take_zero, List.nil_append, List.mem_cons, List.not_mem_nil, or_false]
        exact fun e => h8 e.symm
  · have : k = fs.length := by omega
    subst this
    rw [List.take_length] at hno
    (repeat with_reducible first|refine z_a ?_|refine z_b ?_|refine z_c ?_|refine z_d ?_|refine z_e ?_|refine z_f ?_|refine z_g ?_|refine z_h ?_|refine z_i ?_|refine z_j ?_|refine z_k ?_|refine z_l ?_|refine z_m (by omega) ?_|refine z_n (by omega) ?_|refine z_o (by omega) ?_|refine z_p (by omega) ?_|refine z_q (by omega) ?_|refine z_r (by omega) ?_|refine z_s (by omega) ?_|refine z_t (by omega) ?_|refine z_u (by omega) ?_|refine z_v (by omega) ?_|refine z_w (by omega) ?_|refine z_x (by omega) ?_|refine z_y (by omega) ?_|refine z_z (by omega) ?_|refine z_A ?_|refine z_B ?_|refine z_C ?_|refine z_D ?_|refine z_E ?_|refine z_F ?_|refine z_G ?_|refine z_H ?_|refine z_I ?_)
    refine ⟨?_, below_then hb1 hb2⟩
    unfold ckX ckI
    rw [if_pos hid, if_neg hne, if_neg (by omega), if_pos hno]
theorem New9 (hu : Nat) (hh : 0 < hu ∧ hu < 999) (c : Nat → Nat) (w : World) : CallP Try.prog 9 #[] (fun r w' => ∃ g c', r = .pointer (some ⟨g, 0, none⟩) ∧ (∀ k, k < w.heap.size → c' k = c k) ∧ BdS hu c' w' g [] ∧ Below w.heap.size w w') w := by
  refine ⟨S9.calls _ _ ?_⟩
  unfold S9
  refine bd (cells := #[.slice none 0 0]) (by kernel_rfl) ?_
  refine bxB ?_
  intro g w1 hg hB hb
  exact ⟨g, col c w.heap.size hu, rfl, col_lt _ _ _, ⟨.slice none 0 0, [], ⟨⟨hh, ⟨rfl, .inl ⟨rfl, rfl⟩⟩, InC.nil _ _ _ _, by simp⟩, col_ge _ _ _ (by omega), hB⟩, rfl⟩, hb⟩
theorem RbS.new (hu : Nat) (hh : 0 < hu ∧ hu < 999) (c : Nat → Nat) {n g : Nat} {w' : World} (hg : n ≤ g) (hB : Blk w' g 42 #[.slice none 0 0, .int .i64 0]) : RbS hu (col c n hu) w' g 0 [] :=
  ⟨.slice none 0 0, [], ⟨⟨hh, ⟨rfl, .inl ⟨rfl, rfl⟩⟩, InC.nil _ _ _ _, by simp⟩, col_ge _ _ _ hg, hB⟩, rfl⟩
theorem Rd.none' {w : World} {n c : Nat} {cs : List Value} (h : Rd w (.slice none n c) cs) : cs = [] := by
  cases cs with
  | nil => rfl
  | cons x l =>
    obtain ⟨A, c', he, _⟩ := h.slice
    cases he
    obtain ⟨a, ha, _⟩ := h.at 0 (by simp)
    cases ha
theorem Clone28 (v : Value) (l : List Int) (hl : l.length ≤ 100000) (w : World) (hv : Rd w v (iV l)) : CallP Try.prog 28 #[v] (fun r w' => Own 3 w' r (iV l) ∧ Fresh w.heap.size r ∧ Below w.heap.size w w') w := by
  obtain ⟨A, c, rfl, hc, hm⟩ := hv.slice
  refine ⟨S28.calls _ _ _ ?_⟩
  unfold S28
  refine ofPR (pr_slnil undIs) ?_
  cases A with
  | none =>
    have := hv.none'
    rw [this] at hv ⊢
    simp only [Option.isNone_none]
    (repeat with_reducible first|refine z_a ?_|refine z_b ?_|refine z_c ?_|refine z_d ?_|refine z_e ?_|refine z_f ?_|refine z_g ?_|refine z_h ?_|refine z_i ?_|refine z_j ?_|refine z_k ?_|refine z_l ?_|refine z_m (by omega) ?_|refine z_n (by omega) ?_|refine z_o (by omega) ?_|refine z_p (by omega) ?_|refine z_q (by omega) ?_|refine z_r (by omega) ?_|refine z_s (by omega) ?_|refine z_t (by omega) ?_|refine z_u (by omega) ?_|refine z_v (by omega) ?_|refine z_w (by omega) ?_|refine z_x (by omega) ?_|refine z_y (by omega) ?_|refine z_z (by omega) ?_|refine z_A ?_|refine z_B ?_|refine z_C ?_|refine z_D ?_|refine z_E ?_|refine z_F ?_|refine z_G ?_|refine z_H ?_|refine z_I ?_)
    exact ⟨Own.nil _ _, Fresh.nil _, Below.refl _ _⟩
  | some a =>
    simp only [Option.isNone_some]
    (repeat with_reducible first|refine z_a ?_|refine z_b ?_|refine z_c ?_|refine z_d ?_|refine z_e ?_|refine z_f ?_|refine z_g ?_|refine z_h ?_|refine z_i ?_|refine z_j ?_|refine z_k ?_|refine z_l ?_|refine z_m (by omega) ?_|refine z_n (by omega) ?_|refine z_o (by omega) ?_|refine z_p (by omega) ?_|refine z_q (by omega) ?_|refine z_r (by omega) ?_|refine z_s (by omega) ?_|refine z_t (by omega) ?_|refine z_u (by omega) ?_|refine z_v (by omega) ?_|refine z_w (by omega) ?_|refine z_x (by omega) ?_|refine z_y (by omega) ?_|refine z_z (by omega) ?_|refine z_A ?_|refine z_B ?_|refine z_C ?_|refine z_D ?_|refine z_E ?_|refine z_F ?_|refine z_G ?_|refine z_H ?_|refine z_I ?_)
    refine bs0 undIs szI ?_
    have ha := (Below.refl w.heap.size w).alloc (Nat.le_refl _) (.cells #[] 3)
    refine apF w.heap.size undIs infI (by rfl) (by decide) (Own.lit0 w 3) (Fresh.new (Nat.le_refl _) _ _) ha.size (hv.below ha) (fun u hu => by obtain ⟨n, _, rfl⟩ := List.mem_map.1 hu; rfl) (by rw [List.length_map]; simp; omega) ?_
    intro v2 w2 ho2 hf2 hb2 _
    exact ⟨ho2, hf2, ha.trans hb2⟩
section
variable {hu : Nat} {c : Nat → Nat} {w : World} {g n : Nat} {V : BdV}
theorem lfV_at {M : List Lm} (i : Nat) (hi : i < M.length) {id : Int} (hid : id = i + 1) (h1 : M[i].x.st = 1) : lfV (absB M) id = M[i].x.rs := by
  unfold lfV
  rw [if_pos ((absB_st i hi hid).trans h1)]
  have : (id - 1).toNat = i := by omega
  rw [this]
  unfold absB
  rw [List.getElem?_map, List.getElem?_eq_getElem hi]
  rfl
theorem ixV_at {M : List Lm} (i : Nat) (hi : i < M.length) {id : Int} (hid : id = i + 1) (h1 : M[i].x.st = 1 ∨ M[i].x.st = 2) : ixV (absB M) id = some M[i].x.fs := by
  unfold ixV
  rw [if_pos (by rw [absB_st i hi hid]; exact h1)]
  have : (id - 1).toNat = i := by omega
  rw [this]
  unfold absB
  rw [List.getElem?_map, List.getElem?_eq_getElem hi]
  rfl
theorem Left20 (id : Int) (hid : id ≤ 9223372036854775807) (h : BdS hu c w g V) (hok : BdOk n V) (hn : n ≤ 100000) :
    CallP Try.prog 20 #[.pointer (some ⟨g, 0, none⟩), .int .i64 id] (fun r w' => OwnG w.heap.size w' r (lfV V id) ∧ Below w.heap.size w w') w := by
  obtain ⟨vL, M, h, rfl⟩ := h
  refine ⟨S20.calls _ _ _ _ ?_⟩
  unfold S20
  refine bs1I bI1 ?_
  intro v1 w1 ho1 _ hb1
  have h1 := h.below hb1
  refine (at29 id v1 [1] h1 ho1.rd hid).mono ?_
  rintro _ _ ⟨rfl, ⟨i, gL, cL, hi, rfl, hin, rfl, rfl⟩ | ⟨rfl, hno⟩⟩
  · obtain ⟨gL', cL', he, _, _, q2⟩ := h1.at i hi
    cases he
    refine nnilP undLp ?_
    simp only [Option.isSome_some]
    (repeat with_reducible first | refine fdG l2 (by decide) ?_| refine ld oneRgs q2 ?_|refine z_a ?_|refine z_b ?_|refine z_c ?_|refine z_d ?_|refine z_e ?_|refine z_f ?_|refine z_g ?_|refine z_h ?_|refine z_i ?_|refine z_j ?_|refine z_k ?_|refine z_l ?_|refine z_m (by omega) ?_|refine z_n (by omega) ?_|refine z_o (by omega) ?_|refine z_p (by omega) ?_|refine z_q (by omega) ?_|refine z_r (by omega) ?_|refine z_s (by omega) ?_|refine z_t (by omega) ?_|refine z_u (by omega) ?_|refine z_v (by omega) ?_|refine z_w (by omega) ?_|refine z_x (by omega) ?_|refine z_y (by omega) ?_|refine z_z (by omega) ?_|refine z_A ?_|refine z_B ?_|refine z_C ?_|refine z_D ?_|refine z_E ?_|refine z_F ?_|refine z_G ?_|refine z_H ?_|refine z_I ?_)
    have hel := h1.el _ (List.getElem_mem hi)
    have hst : M[i].x.st = 1 := by simpa using hin
    have hlen : M[i].x.rs.length ≤ 100000 := Nat.le_trans (hok.2 M[i].x (List.mem_map.2 ⟨_, List.getElem_mem hi, rfl⟩)).len hn
    refine (clone47 _ _ hlen w1 hel.rrd).mono ?_
    rintro r w2 ⟨ho2, hb2⟩
    exact ⟨by rw [lfV_at i hi rfl hst]; exact ho2.mono hb1.size, below_then hb1 hb2⟩
  · refine nnilP undLp ?_
    simp only [Option.isSome_none]
    (repeat with_reducible first|refine z_a ?_|refine z_b ?_|refine z_c ?_|refine z_d ?_|refine z_e ?_|refine z_f ?_|refine z_g ?_|refine z_h ?_|refine z_i ?_|refine z_j ?_|refine z_k ?_|refine z_l ?_|refine z_m (by omega) ?_|refine z_n (by omega) ?_|refine z_o (by omega) ?_|refine z_p (by omega) ?_|refine z_q (by omega) ?_|refine z_r (by omega) ?_|refine z_s (by omega) ?_|refine z_t (by omega) ?_|refine z_u (by omega) ?_|refine z_v (by omega) ?_|refine z_w (by omega) ?_|refine z_x (by omega) ?_|refine z_y (by omega) ?_|refine z_z (by omega) ?_|refine z_A ?_|refine z_B ?_|refine z_C ?_|refine z_D ?_|refine z_E ?_|refine z_F ?_|refine z_G ?_|refine z_H ?_|refine z_I ?_)
    refine ⟨?_, hb1⟩
    have : lfV (absB M) id = [] := by
      unfold lfV
      rw [if_neg]
      intro e
      obtain ⟨q1, q2⟩ := stV_in (V := absB M) (id := id) (by omega)
      exact hno ⟨q1, by rwa [absB_len] at q2, by rw [e]; simp⟩
    rw [this]
    exact ⟨⟨rfl, .inl ⟨rfl, rfl⟩⟩, Fresh.nil _⟩
/-- Index's answer. -/
def IxAns (B : Nat) (w : World) (r : Value) (id : Int) (o : Option (List Int)) : Prop := match o with
  | some fs => ∃ vf, r = .tuple #[.agg #[.int .i64 id, vf], .bool true] ∧ Own 3 w vf (iV fs) ∧ Fresh B vf
  | none => r = .tuple #[.agg #[.int .i64 0, .slice none 0 0], .bool false]
theorem aggX : aggB Try.prog 47 = true := by kernel_rfl
theorem szX : (Try.prog.info? 47).map (·.size) = some 2 := by kernel_rfl
theorem zX : (Try.prog.info? 47).bind (·.zero) = some (.agg #[.int .i64 0, .slice none 0 0]) := by kernel_rfl
theorem bI2 (w : World) (a b : Int) : (Instr.buildSlice 23 2 #[(0, .int .i64 a), (1, .int .i64 b)]).run Try.prog w = .ok (.slice (some ⟨w.heap.size, 0, none⟩) 2 2) (w.alloc (.cells #[.int .i64 a, .int .i64 b] 3)) := by kernel_rfl
theorem Index19 (id : Int) (hid : id ≤ 9223372036854775807) (h : BdS hu c w g V) (hok : BdOk n V) :
    CallP Try.prog 19 #[.pointer (some ⟨g, 0, none⟩), .int .i64 id] (fun r w' => IxAns w.heap.size w' r id (ixV V id) ∧ Below w.heap.size w w') w := by
  obtain ⟨vL, M, h, rfl⟩ := h
  refine ⟨S19.calls _ _ _ _ ?_⟩
  unfold S19
  refine alB zX ?_
  intro g0 w0 hg0 hB0 hb0
  refine bs2I bI2 ?_
  intro v1 w1 ho1 _ h1
  have hb1 := below_then hb0 h1
  have hB1 := hB0.below' h1
  have hA1 := h.below hb1
  have hs0 := hb0.size
  refine (at29 id v1 [1, 2] hA1 ho1.rd hid).mono ?_
  rintro _ _ ⟨rfl, ⟨i, gL, cL, hi, rfl, hin, rfl, rfl⟩ | ⟨rfl, hno⟩⟩
  · obtain ⟨gL', cL', he, q0, _, _⟩ := hA1.at i hi
    cases he
    refine nnilP undLp ?_
    simp only [Option.isSome_some]
    (repeat with_reducible first | refine fdG l0 (by decide) ?_| refine ld oneIs q0 ?_|refine z_a ?_|refine z_b ?_|refine z_c ?_|refine z_d ?_|refine z_e ?_|refine z_f ?_|refine z_g ?_|refine z_h ?_|refine z_i ?_|refine z_j ?_|refine z_k ?_|refine z_l ?_|refine z_m (by omega) ?_|refine z_n (by omega) ?_|refine z_o (by omega) ?_|refine z_p (by omega) ?_|refine z_q (by omega) ?_|refine z_r (by omega) ?_|refine z_s (by omega) ?_|refine z_t (by omega) ?_|refine z_u (by omega) ?_|refine z_v (by omega) ?_|refine z_w (by omega) ?_|refine z_x (by omega) ?_|refine z_y (by omega) ?_|refine z_z (by omega) ?_|refine z_A ?_|refine z_B ?_|refine z_C ?_|refine z_D ?_|refine z_E ?_|refine z_F ?_|refine z_G ?_|refine z_H ?_|refine z_I ?_)
    have hel := hA1.el _ (List.getElem_mem hi)
    have hst : M[i].x.st = 1 ∨ M[i].x.st = 2 := by simpa using hin
    have hfs := ckI_len ((hok.2 M[i].x (List.mem_map.2 ⟨_, List.getElem_mem hi, rfl⟩)).fs (by omega))
    refine (Clone28 _ _ (by omega) w1 hel.frd).mono ?_
    rintro r w2 ⟨ho2, hf2, h2⟩
    have hb2 := below_then hb1 h2
    have hB2 := hB1.below' h2
    have hs1 := hb1.size
    obtain ⟨A2, c2, rfl⟩ := ho2.slice
    refine bd (cells := #[.int .i64 ((i : Int) + 1), .slice A2 (iV M[i].x.fs).length c2]) (by kernel_rfl) ?_
    refine stB (cells := #[.int .i64 ((i : Int) + 1), .slice A2 (iV M[i].x.fs).length c2]) hB2 szX rfl (by simp [Value.oneCell']) ?_
    intro w3 hB3 hT3
    have hb3 := below_own hb2 hT3 (by omega)
    refine retA aggX hB3 szX ?_
    rw [ixV_at i hi rfl hst]
    refine ⟨⟨_, rfl, ?_, fun k hk => by have := hf2 k hk; omega⟩, hb3⟩
    refine ownsRow_turns ho2 hT3 fun k hk e => ?_
    have := hf2 k hk
    have := hB1.lt
    omega
  · refine nnilP undLp ?_
    simp only [Option.isSome_none]
    (repeat with_reducible first|refine z_a ?_|refine z_b ?_|refine z_c ?_|refine z_d ?_|refine z_e ?_|refine z_f ?_|refine z_g ?_|refine z_h ?_|refine z_i ?_|refine z_j ?_|refine z_k ?_|refine z_l ?_|refine z_m (by omega) ?_|refine z_n (by omega) ?_|refine z_o (by omega) ?_|refine z_p (by omega) ?_|refine z_q (by omega) ?_|refine z_r (by omega) ?_|refine z_s (by omega) ?_|refine z_t (by omega) ?_|refine z_u (by omega) ?_|refine z_v (by omega) ?_|refine z_w (by omega) ?_|refine z_x (by omega) ?_|refine z_y (by omega) ?_|refine z_z (by omega) ?_|refine z_A ?_|refine z_B ?_|refine z_C ?_|refine z_D ?_|refine z_E ?_|refine z_F ?_|refine z_G ?_|refine z_H ?_|refine z_I ?_)
    refine bd (cells := #[.int .i64 0, .slice none 0 0]) (by kernel_rfl) ?_
    refine stB (cells := #[.int .i64 0, .slice none 0 0]) hB1 szX rfl (by simp [Value.oneCell']) ?_
    intro w3 hB3 hT3
    have hb3 := below_own hb1 hT3 (by omega)
    refine retA aggX hB3 szX ?_
    have : ixV (absB M) id = none := by
      unfold ixV
      rw [if_neg]
      intro e
      obtain ⟨q1, q2⟩ := stV_in (V := absB M) (id := id) (by omega)
      exact hno ⟨q1, by rwa [absB_len] at q2, by rcases e with e | e <;> rw [e] <;> simp⟩
    rw [this]
    exact ⟨rfl, hb3⟩
theorem goV_succ {V : BdV} {k : Nat} (hk : k < V.length) : goV (V.take (k + 1)) = goV (V.take k) ++ if V[k].st = 3 then [(k : Int) + 1] else [] := by
  unfold goV
  rw [List.take_succ_eq_append_getElem hk, List.zipIdx_append, List.filterMap_append]
  congr 1
  rw [List.length_take, Nat.min_eq_left (by omega), List.zipIdx_cons, List.zipIdx_nil, List.filterMap_cons, List.filterMap_nil]
  split
  · rename_i h
    split at h
    · cases h
    · rename_i h3; rw [if_neg h3]
  · rename_i b h
    split at h
    · rename_i h3
      rw [if_pos h3]
      cases h
      congr 1
      omega
    · cases h
theorem absB_get {M : List Lm} {j : Nat} (h : j < (absB M).length) : (absB M)[j] = (M[j]'(by rwa [absB_len] at h)).x := List.getElem_map ..
theorem Gone22 (h : BdS hu c w g V) (hok : BdOk n V) :
    CallP Try.prog 22 #[.pointer (some ⟨g, 0, none⟩)] (fun r w' => Own 3 w' r (iV (goV V)) ∧ Fresh w.heap.size r ∧ Below w.heap.size w w') w := by
  obtain ⟨vL, M, h, rfl⟩ := h
  refine ⟨S22.calls _ _ _ ?_⟩
  unfold S22
  obtain ⟨A, cL, rfl, hml⟩ := h.slice
  have h6 := hok.1
  rw [absB_len] at h6
  have cc0 : w.cell? ⟨g, 0, none⟩ = some (.slice A M.length cL) := h.blk.cell 0
  (repeat with_reducible first | refine fd b0 (by decide) ?_| refine ld oneLs cc0 ?_| refine ln undLs ?_|refine z_a ?_|refine z_b ?_|refine z_c ?_|refine z_d ?_|refine z_e ?_|refine z_f ?_|refine z_g ?_|refine z_h ?_|refine z_i ?_|refine z_j ?_|refine z_k ?_|refine z_l ?_|refine z_m (by omega) ?_|refine z_n (by omega) ?_|refine z_o (by omega) ?_|refine z_p (by omega) ?_|refine z_q (by omega) ?_|refine z_r (by omega) ?_|refine z_s (by omega) ?_|refine z_t (by omega) ?_|refine z_u (by omega) ?_|refine z_v (by omega) ?_|refine z_w (by omega) ?_|refine z_x (by omega) ?_|refine z_y (by omega) ?_|refine z_z (by omega) ?_|refine z_A ?_|refine z_B ?_|refine z_C ?_|refine z_D ?_|refine z_E ?_|refine z_F ?_|refine z_G ?_|refine z_H ?_|refine z_I ?_)
  refine LoopP.inv2 (fun ov iv w' => ∃ i : Nat, i ≤ M.length + 1 ∧ iv = .int .i64 i ∧ Own 3 w' ov (iV (goV ((absB M).take (i - 1)))) ∧ Fresh w.heap.size ov ∧ Below w.heap.size w w') (fun _ iv _ => M.length + 1 - (intOf iv).toNat)
    ⟨0, by omega, rfl, Own.nil _ _, Fresh.nil _, Below.refl _ _⟩ ?_
  rintro ov _ w1 ⟨i, hi, rfl, hown, hfr, hb1⟩ J hJ
  dsimp only [List.headD_cons, List.tail_cons]
  have hs1 := hb1.size
  refine bi_lss_c (fun hlt => ?_) (fun hlt => ?_)
  · (repeat with_reducible first|refine z_a ?_|refine z_b ?_|refine z_c ?_|refine z_d ?_|refine z_e ?_|refine z_f ?_|refine z_g ?_|refine z_h ?_|refine z_i ?_|refine z_j ?_|refine z_k ?_|refine z_l ?_|refine z_m (by omega) ?_|refine z_n (by omega) ?_|refine z_o (by omega) ?_|refine z_p (by omega) ?_|refine z_q (by omega) ?_|refine z_r (by omega) ?_|refine z_s (by omega) ?_|refine z_t (by omega) ?_|refine z_u (by omega) ?_|refine z_v (by omega) ?_|refine z_w (by omega) ?_|refine z_x (by omega) ?_|refine z_y (by omega) ?_|refine z_z (by omega) ?_|refine z_A ?_|refine z_B ?_|refine z_C ?_|refine z_D ?_|refine z_E ?_|refine z_F ?_|refine z_G ?_|refine z_H ?_|refine z_I ?_)
    refine JoinP.cut (fun xs w' => ∃ ov', xs = [ov'] ∧ Own 3 w' ov' (iV (goV ((absB M).take i))) ∧ Fresh w.heap.size ov' ∧ Below w.heap.size w w') (fun J2 hJ2 => ?_) (fun xs w' hI => ?_)
    · refine bs1I bI1 ?_
      intro v2 w2 ho2 _ h2
      have hb2 := below_then hb1 h2
      refine (at29 (i : Int) v2 [3] (h.below hb2) ho2.rd (by omega)).mono ?_
      rintro _ _ ⟨rfl, ⟨j, gL, cL', hj, hij, hin, he, rfl⟩ | ⟨rfl, hno⟩⟩
      · have e : i = j + 1 := by omega
        subst e
        refine nnilP undLp ?_
        simp only [Option.isSome_some]
        (repeat with_reducible first|refine z_a ?_|refine z_b ?_|refine z_c ?_|refine z_d ?_|refine z_e ?_|refine z_f ?_|refine z_g ?_|refine z_h ?_|refine z_i ?_|refine z_j ?_|refine z_k ?_|refine z_l ?_|refine z_m (by omega) ?_|refine z_n (by omega) ?_|refine z_o (by omega) ?_|refine z_p (by omega) ?_|refine z_q (by omega) ?_|refine z_r (by omega) ?_|refine z_s (by omega) ?_|refine z_t (by omega) ?_|refine z_u (by omega) ?_|refine z_v (by omega) ?_|refine z_w (by omega) ?_|refine z_x (by omega) ?_|refine z_y (by omega) ?_|refine z_z (by omega) ?_|refine z_A ?_|refine z_B ?_|refine z_C ?_|refine z_D ?_|refine z_E ?_|refine z_F ?_|refine z_G ?_|refine z_H ?_|refine z_I ?_)
        refine bs1I bI1 ?_
        intro v3 w3 ho3 _ h3
        have hb3 := below_then hb2 h3
        have hown3 := (hown.below h2).below h3
        rw [Nat.add_sub_cancel] at hown3
        refine apF w.heap.size undIs infI (by rfl) (by decide) hown3 hfr hb3.size ho3.rd (fun u hu => by simp only [List.mem_cons, List.not_mem_nil, or_false] at hu; rw [hu]; rfl) (by
          rw [List.length_map]
          have : (goV ((absB M).take j)).length ≤ M.length := by
            unfold goV
            refine Nat.le_trans (List.length_filterMap_le _ _) ?_
            rw [List.length_zipIdx, List.length_take, absB_len]; omega
          simp; omega) ?_
        intro v4 w4 ho4 hf4 hb4 _
        refine hJ2 _ _ ⟨v4, rfl, ?_, hf4, hb3.trans hb4⟩
        have hj' : j < (absB M).length := by rw [absB_len]; exact hj
        rw [goV_succ hj']
        have hst : (absB M)[j].st = 3 := by
          rw [absB_get]
          simpa using hin
        rw [if_pos hst]
        unfold iV at *
        rw [List.map_append]
        exact ho4
      · refine nnilP undLp ?_
        simp only [Option.isSome_none]
        (repeat with_reducible first|refine z_a ?_|refine z_b ?_|refine z_c ?_|refine z_d ?_|refine z_e ?_|refine z_f ?_|refine z_g ?_|refine z_h ?_|refine z_i ?_|refine z_j ?_|refine z_k ?_|refine z_l ?_|refine z_m (by omega) ?_|refine z_n (by omega) ?_|refine z_o (by omega) ?_|refine z_p (by omega) ?_|refine z_q (by omega) ?_|refine z_r (by omega) ?_|refine z_s (by omega) ?_|refine z_t (by omega) ?_|refine z_u (by omega) ?_|refine z_v (by omega) ?_|refine z_w (by omega) ?_|refine z_x (by omega) ?_|refine z_y (by omega) ?_|refine z_z (by omega) ?_|refine z_A ?_|refine z_B ?_|refine z_C ?_|refine z_D ?_|refine z_E ?_|refine z_F ?_|refine z_G ?_|refine z_H ?_|refine z_I ?_)
        refine hJ2 _ _ ⟨ov, rfl, ?_, hfr, hb2⟩
        have hh := hown.below h2
        rcases Nat.eq_zero_or_pos i with h0 | h0
        · rw [h0] at hh ⊢; exact hh
        · obtain ⟨j, rfl⟩ : ∃ j, i = j + 1 := ⟨i - 1, by omega⟩
          have hj' : j < (absB M).length := by rw [absB_len]; omega
          rw [goV_succ hj', if_neg, List.append_nil]
          · exact hh
          · intro e
            refine hno ⟨by omega, by omega, ?_⟩
            rw [absB_st j (by omega) (by omega)]
            rw [absB_get] at e
            rw [e]; simp
    · obtain ⟨ov', rfl, q1, q2, q3⟩ := hI
      dsimp only [List.headD_cons, List.tail_cons]
      (repeat with_reducible first|refine z_a ?_|refine z_b ?_|refine z_c ?_|refine z_d ?_|refine z_e ?_|refine z_f ?_|refine z_g ?_|refine z_h ?_|refine z_i ?_|refine z_j ?_|refine z_k ?_|refine z_l ?_|refine z_m (by omega) ?_|refine z_n (by omega) ?_|refine z_o (by omega) ?_|refine z_p (by omega) ?_|refine z_q (by omega) ?_|refine z_r (by omega) ?_|refine z_s (by omega) ?_|refine z_t (by omega) ?_|refine z_u (by omega) ?_|refine z_v (by omega) ?_|refine z_w (by omega) ?_|refine z_x (by omega) ?_|refine z_y (by omega) ?_|refine z_z (by omega) ?_|refine z_A ?_|refine z_B ?_|refine z_C ?_|refine z_D ?_|refine z_E ?_|refine z_F ?_|refine z_G ?_|refine z_H ?_|refine z_I ?_)
      exact hJ _ _ _ ⟨i + 1, by omega, by simp, q1, q2, q3⟩ (by simp [intOf]; omega)
  · have : i = M.length + 1 := by omega
    subst this
    (repeat with_reducible first|refine z_a ?_|refine z_b ?_|refine z_c ?_|refine z_d ?_|refine z_e ?_|refine z_f ?_|refine z_g ?_|refine z_h ?_|refine z_i ?_|refine z_j ?_|refine z_k ?_|refine z_l ?_|refine z_m (by omega) ?_|refine z_n (by omega) ?_|refine z_o (by omega) ?_|refine z_p (by omega) ?_|refine z_q (by omega) ?_|refine z_r (by omega) ?_|refine z_s (by omega) ?_|refine z_t (by omega) ?_|refine z_u (by omega) ?_|refine z_v (by omega) ?_|refine z_w (by omega) ?_|refine z_x (by omega) ?_|refine z_y (by omega) ?_|refine z_z (by omega) ?_|refine z_A ?_|refine z_B ?_|refine z_C ?_|refine z_D ?_|refine z_E ?_|refine z_F ?_|refine z_G ?_|refine z_H ?_|refine z_I ?_)
    rw [Nat.add_sub_cancel, ← absB_len (M := M), List.take_length] at hown
    exact ⟨hown, hfr, hb1⟩
theorem Version26 (h : BdS hu c w g V) (hok : BdOk n V) :
    CallP Try.prog 26 #[.pointer (some ⟨g, 0, none⟩)] (fun r w' => r = .int .i64 (veV V) ∧ Below w.heap.size w w') w := by
  refine ⟨S26.calls _ _ _ ?_⟩
  unfold S26
  have hdr : Below w.heap.size w w.drew := (Below.refl _ _).drew
  obtain ⟨vL, M, hA, rfl⟩ := h
  obtain ⟨A, cL, rfl, hml⟩ := hA.slice
  have h6 := hok.1
  have q0 : ∀ w', Below w.heap.size w w' → w'.cell? ⟨g, 0, none⟩ = some (.slice A M.length cL) := fun w' hb => (hA.blk.below' hb).cell 0
  refine draw (Below w.heap.size w) hdr ?_
  (repeat with_reducible first | refine yfd b0 (by decide) ?_| refine yl1 oneLs q0 ?_| refine yln undLs ?_|refine z_J ?_|refine z_a ?_|refine z_b ?_|refine z_c ?_|refine z_d ?_|refine z_e ?_|refine z_f ?_|refine z_g ?_|refine z_h ?_|refine z_i ?_|refine z_j ?_|refine z_k ?_|refine z_l ?_|refine z_K (by omega) ?_|refine z_L (by omega) ?_|refine z_M (by omega) ?_|refine z_N (by omega) ?_|refine z_O (by omega) ?_|refine z_P (by omega) ?_|refine z_Q (by omega) ?_|refine z_R (by omega) ?_|refine z_S (by omega) ?_|refine z_T (by omega) ?_|refine z_U (by omega) ?_|refine z_V (by omega) ?_|refine z_W (by omega) ?_|refine z_X (by omega) ?_|refine z_Y ?_|refine z_Z ?_|refine z_a1 ?_|refine z_b1 ?_|refine z_c1 ?_|refine z_d1 ?_|refine z_e1 ?_|refine z_f1 ?_|refine z_g1 ?_)
  refine act ?_
  refine (Gone22 (⟨_, M, hA.below hdr, rfl⟩ : BdS hu c w.drew g (absB M)) hok).mono ?_
  rintro v1 w1 ⟨ho1, _, h1⟩
  have hb1 := below_then hdr h1
  refine ⟨_, hb1, fun _ h => h, ?_⟩
  obtain ⟨A1, c1, rfl⟩ := ho1.slice
  have hl : (iV (goV (absB M))).length = (goV (absB M)).length := List.length_map _
  have hgl : (goV (absB M)).length ≤ 6 := by
    unfold goV
    refine Nat.le_trans (List.length_filterMap_le _ _) ?_
    rw [List.length_zipIdx]; exact h6
  (repeat with_reducible first | refine yln undIs ?_|refine z_J ?_|refine z_a ?_|refine z_b ?_|refine z_c ?_|refine z_d ?_|refine z_e ?_|refine z_f ?_|refine z_g ?_|refine z_h ?_|refine z_i ?_|refine z_j ?_|refine z_k ?_|refine z_l ?_|refine z_K (by omega) ?_|refine z_L (by omega) ?_|refine z_M (by omega) ?_|refine z_N (by omega) ?_|refine z_O (by omega) ?_|refine z_P (by omega) ?_|refine z_Q (by omega) ?_|refine z_R (by omega) ?_|refine z_S (by omega) ?_|refine z_T (by omega) ?_|refine z_U (by omega) ?_|refine z_V (by omega) ?_|refine z_W (by omega) ?_|refine z_X (by omega) ?_|refine z_Y ?_|refine z_Z ?_|refine z_a1 ?_|refine z_b1 ?_|refine z_c1 ?_|refine z_d1 ?_|refine z_e1 ?_|refine z_f1 ?_|refine z_g1 ?_)
  rw [hl]
  rw [absB_len] at h6
  simp -dsimp (disch := omega) only [IntWalk.i64_in, IntWalk.u32_in, IntWalk.u8_in]
  refine ⟨?_, hb1⟩
  unfold veV
  rw [absB_len]
end
end Go.Proofs.Ytcfncjejpjjhdaa.E
