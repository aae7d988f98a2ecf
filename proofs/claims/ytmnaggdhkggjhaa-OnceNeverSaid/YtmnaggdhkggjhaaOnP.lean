/- Two views joined. -/
import Derived.Test.YtmnaggdhkggjhaaOnO
namespace Go.Proofs.Ytmnaggdhkggjhaa.E
open Go Go.RowKit
set_option linter.unusedSimpArgs false
set_option linter.unusedVariables false

theorem getK_some_of {α : Type} {k : Int} {v : α} {l : List (Int × α)} (hr : Rising l) (h : (k, v) ∈ l) : getK k l = some v := getK_of_mem hr.nodup h
theorem rising_ext {α : Type} : ∀ (l l' : List (Int × α)), Rising l → Rising l' → (∀ n, getK n l = getK n l') → l = l'
  | [], [], _, _, _ => rfl
  | [], (a, v) :: r, _, _, h => by have := h a; simp [getK] at this
  | (a, v) :: r, [], _, _, h => by have := h a; simp [getK] at this
  | (a, v) :: r, (b, u) :: s, h1, h2, h => by
    obtain ⟨p1, p2⟩ := List.pairwise_cons.1 h1
    obtain ⟨q1, q2⟩ := List.pairwise_cons.1 h2
    have hab : a = b := by
      rcases Int.lt_trichotomy a b with hlt | he | hgt
      · have := h a
        rw [getK_none_of a ((b, u) :: s) fun p hp e => by
          rcases List.mem_cons.1 hp with rfl | hp
          · simp only at e; omega
          · have := q1 p hp; simp only at this; omega] at this
        simp [getK] at this
      · exact he
      · have := h b
        rw [getK_none_of b ((a, v) :: r) fun p hp e => by
          rcases List.mem_cons.1 hp with rfl | hp
          · simp only at e; omega
          · have := p1 p hp; simp only at this; omega] at this
        simp [getK] at this
    subst hab
    have hvu : v = u := by have := h a; simpa [getK] using this
    subst hvu
    rw [rising_ext r s p2 q2 fun n => ?_]
    by_cases hn : n = a
    · subst hn
      rw [getK_none_of n r fun p hp e => by have := p1 p hp; simp only at this; omega, getK_none_of n s fun p hp e => by have := q1 p hp; simp only at this; omega]
    · have := h n
      simpa [getK, hn] using this
def canon {α : Type} (l : List (Int × α)) : List (Int × α) := l.foldr (fun p acc => insK p.1 p.2 acc) []
theorem canon_perm {α : Type} : ∀ l : List (Int × α), (canon l).Perm l
  | [] => List.Perm.refl _
  | p :: r => (insK_perm p.1 p.2 (canon r)).trans ((canon_perm r).cons p)
theorem canon_rising {α : Type} : ∀ l : List (Int × α), (l.map (·.1)).Nodup → Rising (canon l)
  | [], _ => List.Pairwise.nil
  | p :: r, h => by
    simp only [List.map_cons, List.nodup_cons] at h
    refine insK_rising p.1 p.2 _ (canon_rising r h.2) fun q hq e => h.1 ?_
    exact List.mem_map.2 ⟨q, (canon_perm r).mem_iff.1 hq, e⟩
theorem getK_canon {α : Type} {l : List (Int × α)} (h : (l.map (·.1)).Nodup) (n : Int) : getK n (canon l) = getK n l := getK_perm (canon_perm l) h n
theorem getK_append {α : Type} (n : Int) (b : List (Int × α)) : ∀ a : List (Int × α), getK n (a ++ b) = (getK n a).or (getK n b)
  | [] => by simp [getK]
  | (x, v) :: r => by
    rw [List.cons_append, getK, getK]
    split
    · rfl
    · exact getK_append n b r
def lack {α : Type} (la lb : List (Int × α)) : List (Int × α) := lb.filter fun p => (getK p.1 la).isNone
theorem getK_filter {α : Type} {q : Int → Bool} {n : Int} (hq : q n = true) : ∀ l : List (Int × α), getK n (l.filter fun p => q p.1) = getK n l
  | [] => rfl
  | (a, v) :: r => by
    rw [List.filter_cons]
    by_cases h : n = a
    · subst h
      simp only [hq, if_true, getK]
    · split
      · rw [getK, getK, if_neg h, if_neg h, getK_filter hq r]
      · rw [getK, if_neg h, getK_filter hq r]
def mergeR {α : Type} (la lb : List (Int × α)) : List (Int × α) := canon (la ++ lack la lb)
theorem merge_nodup {α : Type} {la lb : List (Int × α)} (ha : Rising la) (hb : Rising lb) : ((la ++ lack la lb).map (·.1)).Nodup := by
  rw [List.map_append]
  refine List.nodup_append.2 ⟨ha.nodup, (List.Sublist.map _ List.filter_sublist).nodup hb.nodup, fun x hx y hy e => ?_⟩
  obtain ⟨p, hp, rfl⟩ := List.mem_map.1 hx
  obtain ⟨q, hq, rfl⟩ := List.mem_map.1 hy
  have h1 := (List.mem_filter.1 hq).2
  rw [← e, getK_some_of ha (show (p.1, p.2) ∈ la from hp)] at h1
  simp at h1
theorem mergeR_rising {α : Type} {la lb : List (Int × α)} (ha : Rising la) (hb : Rising lb) : Rising (mergeR la lb) := canon_rising _ (merge_nodup ha hb)
theorem mergeR_get {α : Type} {la lb : List (Int × α)} (ha : Rising la) (hb : Rising lb) (n : Int) : getK n (mergeR la lb) = (getK n la).or (getK n lb) := by
  rw [mergeR, getK_canon (merge_nodup ha hb), getK_append]
  cases h : getK n la with
  | some v => rfl
  | none =>
    simp only [Option.none_or]
    exact getK_filter (q := fun x => (getK x la).isNone) (by rw [h]; rfl) lb
theorem mergeR_mem {α : Type} {la lb : List (Int × α)} {p : Int × α} (h : p ∈ mergeR la lb) : p ∈ la ∨ p ∈ lb := by
  have := (canon_perm _).mem_iff.1 h
  rcases List.mem_append.1 this with h | h
  · exact .inl h
  · exact .inr (List.mem_filter.1 h).1
/-- All that is too much is forgotten. -/
def cutR : Int → List (Int × Rm) → VC
  | fl, [] => (fl, [])
  | fl, p :: r => if 4 < (p :: r).length then cutR p.1 r else (fl, p :: r)
theorem cutR_good : ∀ (l : List (Int × Rm)) (fl : Int), Rising l → (∀ p ∈ l, fl < p.1) → (∀ p ∈ l, ∀ x ∈ p.2.2, valOk x) → (∀ p ∈ l, 1 ≤ p.1 ∧ p.1 ≤ 1099511627776) → (0 ≤ fl ∧ fl ≤ 1099511627776) → GoodV (cutR fl l)
  | [], fl, h1, h2, h3, h4, h5 => ⟨List.Pairwise.nil, by simp [cutR], fun p hp => by simp [cutR] at hp, fun p hp => by simp [cutR] at hp, fun p hp => by simp [cutR] at hp, h5⟩
  | p :: r, fl, h1, h2, h3, h4, h5 => by
    rw [cutR]
    split
    · obtain ⟨g1, g2⟩ := List.pairwise_cons.1 h1
      have := h4 p (by simp)
      exact cutR_good r p.1 g2 (fun q hq => g1 q hq) (fun q hq => h3 q (by simp [hq])) (fun q hq => h4 q (by simp [hq])) (by omega)
    · rename_i h
      exact ⟨h1, by simp only; omega, h2, h3, h4, h5⟩
theorem shrink_cut (gc br : Nat) : ∀ (n : Nat) (fl : Int) (L : List (Int × Rp)) (m : List (Int × Rm)), L.length ≤ n → (absL L).Perm m → Rising m → Sees ⟨gc, br, (shrink n fl L).1, (shrink n fl L).2⟩ (cutR fl m)
  | 0, fl, L, m, hl, hp, hr => by
    have hL : L = [] := List.eq_nil_of_length_eq_zero (by omega)
    subst hL
    have hm : m = [] := List.eq_nil_of_length_eq_zero (by rw [← hp.length_eq]; rfl)
    subst hm
    exact ⟨rfl, List.Perm.refl _⟩
  | n + 1, fl, L, m, hl, hp, hr => by
    have hlen : L.length = m.length := by have := hp.length_eq; simpa [absL] using this
    rw [shrink]
    cases m with
    | nil =>
      rw [if_neg (by rw [hlen]; simp)]
      exact ⟨rfl, hp⟩
    | cons p r =>
      rw [cutR, ← hlen]
      split
      · rename_i h4
        have hk : minK L = p.1 := minK_head (l := L) (p := p) (r := r) (by have := hp.map (·.1); rwa [absL_keys] at this) hr
        have hnd : (L.map (·.1)).Nodup := by
          have := (hp.map (·.1)).symm.nodup hr.nodup
          rwa [absL_keys] at this
        have hd : (absL (delK p.1 L)).Perm r := by
          unfold absL
          rw [← delK_map Rp.abs]
          exact perm_filter_tail hp hr (by have := absL_keys L; unfold absL at this; rw [this]; exact hnd)
        have hdl : (delK p.1 L).length ≤ n := by
          have := hd.length_eq
          simp only [absL, List.length_map, List.length_cons] at this hlen
          omega
        rw [hk]
        exact shrink_cut gc br n p.1 _ r hdl hd (List.pairwise_cons.1 hr).2
      · exact ⟨rfl, hp⟩
def joinV (va vb : VC) : VC := cutR (max va.1 vb.1) ((mergeR va.2 vb.2).filter fun p => decide (max va.1 vb.1 < p.1))
theorem Rising.filter {α : Type} {l : List (Int × α)} (h : Rising l) (q : Int × α → Bool) : Rising (l.filter q) := List.Pairwise.sublist List.filter_sublist h
theorem joinV_good {va vb : VC} (ha : GoodV va) (hb : GoodV vb) : GoodV (joinV va vb) := by
  have hm : ∀ p ∈ (mergeR va.2 vb.2).filter (fun p => decide (max va.1 vb.1 < p.1)), p ∈ va.2 ∨ p ∈ vb.2 := fun p hp => mergeR_mem (List.mem_filter.1 hp).1
  have h1 := ha.fl
  have h2 := hb.fl
  refine cutR_good _ _ ((mergeR_rising ha.rise hb.rise).filter _) (fun p hp => by simpa using (List.mem_filter.1 hp).2) (fun p hp => ?_) (fun p hp => ?_) (by omega)
  · rcases hm p hp with h | h
    · exact ha.ok p h
    · exact hb.ok p h
  · rcases hm p hp with h | h
    · exact ha.key p h
    · exact hb.key p h
theorem joinX {va vb : VC} (ha : GoodV va) (hb : GoodV vb) : overX (overX x0 vb) va = (max va.1 vb.1, fun n => getK n (mergeR va.2 vb.2)) := by
  unfold overX x0
  have h1 := ha.fl
  have h2 := hb.fl
  refine Prod.ext ?_ ?_
  · simp only; omega
  · funext n
    simp only
    rw [mergeR_get ha.rise hb.rise, Option.or_none]
/-- A client that shows both, trimmed. -/
theorem Shows.trim {C : Cli} {va vb : VC} (ha : GoodV va) (hb : GoodV vb) (h : Shows C (overX (overX x0 vb) va)) (hn : (C.l.map (·.1)).Nodup) (gc br : Nat) :
    Sees ⟨gc, br, (trimP C.fl C.l).1, (trimP C.fl C.l).2⟩ (joinV va vb) := by
  rw [joinX ha hb] at h
  have hfl : C.fl = max va.1 vb.1 := h.fl
  have hnA : ((absL C.l).map (·.1)).Nodup := by rw [absL_keys]; exact hn
  have hc : canon (absL C.l) = mergeR va.2 vb.2 := by
    refine rising_ext _ _ (canon_rising _ hnA) (mergeR_rising ha.rise hb.rise) fun n => ?_
    rw [getK_canon hnA, absL, getK_map Rp.abs]
    exact h.get n
  have hp : (absL (C.l.filter fun p => decide (C.fl < p.1))).Perm ((mergeR va.2 vb.2).filter fun p => decide (max va.1 vb.1 < p.1)) := by
    rw [← hc, ← hfl]
    have h1 := ((canon_perm (absL C.l)).symm).filter fun p => decide (C.fl < p.1)
    have h2 : absL (C.l.filter fun p => decide (C.fl < p.1)) = (absL C.l).filter fun p => decide (C.fl < p.1) := (filter_map_key Rp.abs (fun n => decide (C.fl < n)) C.l).symm
    rw [h2]
    exact h1
  unfold trimP joinV
  rw [← hfl] at hp ⊢
  exact shrink_cut gc br _ C.fl _ _ (Nat.le_refl _) hp ((mergeR_rising ha.rise hb.rise).filter _)
theorem joinV_none {va vb : VC} (ha : GoodV va) (hb : GoodV vb) (h : overX (overX x0 vb) va = x0) : joinV va vb = (0, []) := by
  rw [joinX ha hb] at h
  have h1 : max va.1 vb.1 = 0 := congrArg Prod.fst h
  have h2 : mergeR va.2 vb.2 = [] := rising_ext _ _ (mergeR_rising ha.rise hb.rise) List.Pairwise.nil fun n => by
    have := congrFun (congrArg Prod.snd h) n
    simpa [getK, x0] using this
  rw [joinV, h1, h2]; rfl
end Go.Proofs.Ytmnaggdhkggjhaa.E
