/- The reference's table and the views of clients: the same. -/
import Derived.Test.YtmnaggdhkggjhaaOpA
namespace Go.Proofs.Ytmnaggdhkggjhaa.E
open Go Go.RowKit
set_option linter.unusedSimpArgs false
set_option linter.unusedVariables false

def pairOf (x : OneM) : Int × Rm := (x.no, (x.R, x.vs))
def ofCl (L : List OneM) (id : Int) : List (Int × Rm) := (L.filter fun x => decide (x.cl = id)).map pairOf
structure Refines (L : List OneM) (F : List (Int × Int)) (V : Int → VC) : Prop where
  sorted : L.Pairwise fun y x => ltO y x = true
  rise : Rising F
  fl : ∀ id, floorOf F id = (V id).1
  l : ∀ id, ofCl L id = (V id).2
theorem refines0 : Refines [] [] V0 := ⟨List.Pairwise.nil, List.Pairwise.nil, fun _ => rfl, fun _ => rfl⟩
theorem knownL_eq (L : List OneM) (id : Int) : knownL L id = (ofCl L id).map (·.1) := by
  unfold knownL ofCl
  rw [List.map_map]; rfl
/-! ### floors -/
theorem putF_get (id n : Int) : ∀ (F : List (Int × Int)), Rising F → ∀ j, getK j (putF id n F) = if j = id then some n else getK j F
  | [], _, j => by
    simp only [putF, getK]
  | (a, m) :: r, h, j => by
    obtain ⟨h1, h2⟩ := List.pairwise_cons.1 h
    rw [putF]
    split
    · rename_i ha
      rw [getK, getK, putF_get id n r h2 j]
      by_cases hj : j = a
      · rw [if_pos hj, if_pos hj, if_neg (by omega)]
      · rw [if_neg hj, if_neg hj]
    · rename_i ha
      split
      · rename_i he
        subst he
        rw [getK, getK]
        by_cases hj : j = a
        · rw [if_pos hj, if_pos hj]
        · rw [if_neg hj, if_neg hj, if_neg hj]
      · rw [getK]
theorem putF_mem {id n : Int} : ∀ {F : List (Int × Int)} {p : Int × Int}, p ∈ putF id n F → p = (id, n) ∨ p ∈ F
  | [], p, h => by simp only [putF, List.mem_cons, List.not_mem_nil, or_false] at h; exact .inl h
  | (a, m) :: r, p, h => by
    rw [putF] at h
    split at h
    · rcases List.mem_cons.1 h with h | h
      · exact .inr (by simp [h])
      · exact (putF_mem h).imp (fun h => h) (fun h => by simp [h])
    · split at h
      · rcases List.mem_cons.1 h with h | h
        · exact .inl h
        · exact .inr (by simp [h])
      · rcases List.mem_cons.1 h with h | h
        · exact .inl h
        · exact .inr h
theorem putF_rising (id n : Int) : ∀ (F : List (Int × Int)), Rising F → Rising (putF id n F)
  | [], _ => by simp [putF, Rising]
  | (a, m) :: r, h => by
    obtain ⟨h1, h2⟩ := List.pairwise_cons.1 h
    rw [putF]
    split
    · rename_i ha
      refine List.pairwise_cons.2 ⟨fun p hp => ?_, putF_rising id n r h2⟩
      rcases putF_mem hp with rfl | hp
      · exact ha
      · exact h1 p hp
    · rename_i ha
      split
      · rename_i he
        subst he
        exact List.pairwise_cons.2 ⟨h1, h2⟩
      · rename_i he
        refine List.pairwise_cons.2 ⟨fun p hp => ?_, h⟩
        rcases List.mem_cons.1 hp with rfl | hp
        · simp only; omega
        · have := h1 p hp; simp only at this ⊢; omega
theorem putF_len (id n : Int) : ∀ F : List (Int × Int), (putF id n F).length ≤ F.length + 1
  | [] => by simp [putF]
  | (a, m) :: r => by
    have ih := putF_len id n r
    rw [putF]
    split
    · simp; exact ih
    · split <;> simp
theorem raiseF_len (F : List (Int × Int)) (id n : Int) : (raiseF F id n).length ≤ F.length + 1 := by
  unfold raiseF
  split
  · exact putF_len id n F
  · omega
theorem raiseF_rising {F : List (Int × Int)} (h : Rising F) (id n : Int) : Rising (raiseF F id n) := by
  unfold raiseF
  split
  · exact putF_rising id n F h
  · exact h
theorem raiseF_floor {F : List (Int × Int)} (h : Rising F) (id n j : Int) : floorOf (raiseF F id n) j = if j = id then max (floorOf F id) n else floorOf F j := by
  unfold raiseF
  split
  · rename_i hlt
    rw [floorOf, putF_get id n F h j]
    by_cases hj : j = id
    · rw [if_pos hj, if_pos hj]
      show n = _
      omega
    · rw [if_neg hj, if_neg hj]; rfl
  · rename_i hlt
    by_cases hj : j = id
    · subst hj
      rw [if_pos rfl]; omega
    · rw [if_neg hj]
/-! ### rows of answers -/
theorem ofCl_cons (y : OneM) (r : List OneM) (id : Int) : ofCl (y :: r) id = if y.cl = id then pairOf y :: ofCl r id else ofCl r id := by
  unfold ofCl
  rw [List.filter_cons]
  by_cases h : y.cl = id <;> simp [h]
theorem ltO_trans {x y z : OneM} (h1 : ltO x y = true) (h2 : ltO y z = true) : ltO x z = true := by
  simp only [ltO, Bool.or_eq_true, Bool.and_eq_true, decide_eq_true_eq] at *
  omega
theorem ltO_total {x y : OneM} (h : ¬ ltO y x = true) (hne : ¬ (y.cl = x.cl ∧ y.no = x.no)) : ltO x y = true := by
  simp only [ltO, Bool.or_eq_true, Bool.and_eq_true, decide_eq_true_eq] at *
  omega
theorem putL_sorted (x : OneM) : ∀ (L : List OneM), (L.Pairwise fun y x => ltO y x = true) → (∀ y ∈ L, ¬ (y.cl = x.cl ∧ y.no = x.no)) → (putL x L).Pairwise fun y x => ltO y x = true
  | [], _, _ => by simp [putL]
  | y :: r, h, hne => by
    obtain ⟨h1, h2⟩ := List.pairwise_cons.1 h
    rw [putL]
    split
    · rename_i hlt
      refine List.pairwise_cons.2 ⟨fun z hz => ?_, putL_sorted x r h2 fun z hz => hne z (by simp [hz])⟩
      rcases putL_mem hz with rfl | hz
      · exact hlt
      · exact h1 z hz
    · rename_i hlt
      have hxy := ltO_total hlt (hne y (by simp))
      refine List.pairwise_cons.2 ⟨fun z hz => ?_, h⟩
      rcases List.mem_cons.1 hz with rfl | hz
      · exact hxy
      · exact ltO_trans hxy (h1 z hz)
theorem insK_head {α : Type} (n : Int) (x : α) (l : List (Int × α)) (h : ∀ p ∈ l, n < p.1) : insK n x l = (n, x) :: l := by
  cases l with
  | nil => rfl
  | cons p r =>
    obtain ⟨a, u⟩ := p
    rw [insK, if_pos (h (a, u) (by simp))]
theorem putL_of (x : OneM) : ∀ (L : List OneM), (L.Pairwise fun y x => ltO y x = true) → (∀ y ∈ L, ¬ (y.cl = x.cl ∧ y.no = x.no)) → ∀ id, ofCl (putL x L) id = if id = x.cl then insK x.no (x.R, x.vs) (ofCl L id) else ofCl L id
  | [], _, _, id => by
    rw [putL, ofCl_cons]
    by_cases h : x.cl = id
    · rw [if_pos h, if_pos h.symm]; rfl
    · rw [if_neg h, if_neg (fun e => h e.symm)]
  | y :: r, h, hne, id => by
    obtain ⟨h1, h2⟩ := List.pairwise_cons.1 h
    rw [putL]
    split
    · rename_i hlt
      rw [ofCl_cons, ofCl_cons, putL_of x r h2 (fun z hz => hne z (by simp [hz])) id]
      by_cases hy : y.cl = id
      · rw [if_pos hy, if_pos hy]
        by_cases hi : id = x.cl
        · rw [if_pos hi, if_pos hi]
          have hno : y.no < x.no := by
            simp only [ltO, Bool.or_eq_true, Bool.and_eq_true, decide_eq_true_eq] at hlt
            omega
          show _ = insK x.no (x.R, x.vs) ((y.no, (y.R, y.vs)) :: ofCl r id)
          rw [insK, if_neg (by omega)]; rfl
        · rw [if_neg hi, if_neg hi]
      · rw [if_neg hy, if_neg hy]
    · rename_i hlt
      rw [ofCl_cons]
      by_cases hi : id = x.cl
      · rw [if_pos hi.symm, if_pos hi]
        refine (insK_head _ _ _ fun p hp => ?_).symm
        unfold ofCl at hp
        obtain ⟨z, hz, rfl⟩ := List.mem_map.1 hp
        obtain ⟨hz1, hz2⟩ := List.mem_filter.1 hz
        have hz2 : z.cl = id := by simpa using hz2
        have hxy := ltO_total hlt (hne y (by simp))
        have hxz : ltO x z = true := by
          rcases List.mem_cons.1 hz1 with rfl | hz1
          · exact hxy
          · exact ltO_trans hxy (h1 z hz1)
        simp only [ltO, Bool.or_eq_true, Bool.and_eq_true, decide_eq_true_eq] at hxz
        show x.no < z.no
        omega
      · rw [if_neg (fun e => hi e.symm), if_neg hi]
theorem raiseL_of (L : List OneM) (id fl j : Int) : ofCl (raiseL L id fl) j = if j = id then (ofCl L j).filter fun p => decide (fl < p.1) else ofCl L j := by
  induction L with
  | nil => unfold ofCl raiseL; simp
  | cons y r ih =>
    have e : raiseL (y :: r) id fl = if (decide (y.cl ≠ id) || decide (fl < y.no)) = true then y :: raiseL r id fl else raiseL r id fl := by
      unfold raiseL; rw [List.filter_cons]
    rw [e, ofCl_cons]
    by_cases hj : j = id
    · rw [if_pos hj] at ih ⊢
      by_cases hy : y.cl = j
      · rw [if_pos hy, List.filter_cons]
        have hyi : y.cl = id := hy.trans hj
        by_cases hf : fl < y.no
        · rw [if_pos (by simp [hf]), ofCl_cons, if_pos hy, ih, if_pos (show decide (fl < (pairOf y).1) = true from decide_eq_true hf)]
        · rw [if_neg (by simp [hf, hyi]), ih, if_neg (show ¬ decide (fl < (pairOf y).1) = true from fun hd => hf (of_decide_eq_true hd))]
      · rw [if_neg hy]
        have hyi : y.cl ≠ id := fun e => hy (by omega)
        rw [if_pos (by simp [hyi]), ofCl_cons, if_neg hy, ih]
    · rw [if_neg hj] at ih ⊢
      split
      · rw [ofCl_cons, ih]
      · rename_i hn
        have hyi : y.cl = id := by
          simp only [Bool.or_eq_true, decide_eq_true_eq, not_or] at hn
          exact Classical.not_not.1 hn.1
        rw [ih, if_neg (by omega)]
theorem raiseL_sorted {L : List OneM} (h : L.Pairwise fun y x => ltO y x = true) (id fl : Int) : (raiseL L id fl).Pairwise fun y x => ltO y x = true := h.filter _
/-- A new answer is put. -/
theorem Refines.put {L : List OneM} {F : List (Int × Int)} {V : Int → VC} (h : Refines L F V) (x : OneM) (hg : GoodV (V x.cl)) (hn : (V x.cl).1 < x.no) (hne : ∀ p ∈ (V x.cl).2, p.1 ≠ x.no) :
    Refines (putR L F x).1 (putR L F x).2 (setV V x.cl (putV (V x.cl) x.no (x.R, x.vs))) := by
  have hneL : ∀ y ∈ L, ¬ (y.cl = x.cl ∧ y.no = x.no) := fun y hy e => by
    have : pairOf y ∈ (V x.cl).2 := by
      rw [← h.l x.cl]
      exact List.mem_map.2 ⟨y, List.mem_filter.2 ⟨hy, by simpa using e.1⟩, rfl⟩
    exact hne _ this e.2
  have hso := putL_sorted x L h.sorted hneL
  have hof := putL_of x L h.sorted hneL
  have hrise := insK_rising x.no (x.R, x.vs) (V x.cl).2 hg.rise hne
  have hlen := insK_len x.no (x.R, x.vs) (V x.cl).2
  have hk : knownL (putL x L) x.cl = (insK x.no (x.R, x.vs) (V x.cl).2).map (·.1) := by rw [knownL_eq, hof, if_pos rfl, h.l]
  have h4 := hg.len
  have hab : ∀ p ∈ insK x.no (x.R, x.vs) (V x.cl).2, (V x.cl).1 < p.1 := fun p hp => by
    rcases List.mem_cons.1 ((insK_perm _ _ _).mem_iff.1 hp) with rfl | hp
    · exact hn
    · exact hg.above p hp
  unfold putR
  rw [hk, List.length_map]
  cases hI : insK x.no (x.R, x.vs) (V x.cl).2 with
  | nil => rw [hI] at hlen; simp at hlen
  | cons p r =>
    rw [hI] at hlen hrise hab
    obtain ⟨g1, g2⟩ := List.pairwise_cons.1 hrise
    by_cases hbig : 4 < (p :: r).length
    · rw [if_pos hbig]
      have h5 : (p :: r).length - 5 = 0 := by omega
      have hget : ((p :: r).map (·.1)).getD ((p :: r).length - 5) 0 = p.1 := by rw [h5]; rfl
      rw [hget]
      have hmax : floorOf (raiseF F x.cl p.1) x.cl = p.1 := by
        rw [raiseF_floor h.rise, if_pos rfl, h.fl]
        have := hab p (by simp)
        omega
      have hput : putV (V x.cl) x.no (x.R, x.vs) = (p.1, r) := by unfold putV cutV; rw [hI]; simp only; rw [if_pos hbig]
      rw [hput, hmax]
      refine ⟨raiseL_sorted hso _ _, raiseF_rising h.rise _ _, fun j => ?_, fun j => ?_⟩
      · by_cases hj : j = x.cl
        · subst hj; rw [setV_same, hmax]
        · rw [setV_other _ _ hj, raiseF_floor h.rise, if_neg hj, h.fl]
      · rw [raiseL_of, hof]
        by_cases hj : j = x.cl
        · subst hj
          rw [if_pos rfl, if_pos rfl, setV_same, h.l, hI, List.filter_cons, if_neg (by simp)]
          refine List.filter_eq_self.2 fun q hq => ?_
          have := g1 q hq
          simpa using this
        · rw [if_neg hj, if_neg hj, setV_other _ _ hj, h.l]
    · rw [if_neg hbig]
      have hput : putV (V x.cl) x.no (x.R, x.vs) = ((V x.cl).1, p :: r) := by unfold putV cutV; rw [hI]; simp only; rw [if_neg hbig]
      rw [hput]
      refine ⟨hso, h.rise, fun j => ?_, fun j => ?_⟩
      · by_cases hj : j = x.cl
        · subst hj; rw [setV_same, h.fl]
        · rw [setV_other _ _ hj, h.fl]
      · rw [hof]
        by_cases hj : j = x.cl
        · subst hj; rw [if_pos rfl, setV_same, h.l, hI]
        · rw [if_neg hj, setV_other _ _ hj, h.l]
theorem Refines.look {L : List OneM} {F : List (Int × Int)} {V : Int → VC} (h : Refines L F V) (hg : ∀ id, GoodV (V id)) {id n : Int} {o : Int × Option OneM} (ho : LookR L F id n o) : o.1 = (lookQ V id n).1 ∧ o.2.map (fun x => (x.R, x.vs)) = (lookQ V id n).2 := by
  rcases ho with ⟨hb, rfl⟩ | ⟨hb, hf, rfl⟩ | ⟨hb, hf, ho⟩
  · rw [lookQ, if_pos hb]; exact ⟨rfl, rfl⟩
  · rw [lookQ, if_neg (by rw [hb]; exact Bool.false_ne_true), lookV, if_pos (by rw [← h.fl]; exact hf)]; exact ⟨rfl, rfl⟩
  · rw [lookQ, if_neg (by rw [hb]; exact Bool.false_ne_true), lookV, if_neg (by rw [← h.fl]; exact hf)]
    rcases ho with ⟨x, hx, hc, hn, rfl⟩ | ⟨hno, rfl⟩
    · have hm : (n, (x.R, x.vs)) ∈ (V id).2 := by
        rw [← h.l id]
        exact List.mem_map.2 ⟨x, List.mem_filter.2 ⟨hx, by simpa using hc⟩, by rw [pairOf, hn]⟩
      rw [getK_of_mem (hg id).rise.nodup hm]
      exact ⟨rfl, rfl⟩
    · rw [getK_none_of n (V id).2 fun p hp e => ?_]
      · exact ⟨rfl, rfl⟩
      · rw [← h.l id] at hp
        obtain ⟨x, hx, rfl⟩ := List.mem_map.1 hp
        obtain ⟨h1, h2⟩ := List.mem_filter.1 hx
        exact hno x h1 ⟨by simpa using h2, e⟩
theorem putR_len (L : List OneM) (F : List (Int × Int)) (x : OneM) : (putR L F x).1.length ≤ L.length + 1 ∧ (putR L F x).2.length ≤ F.length + 1 := by
  unfold putR
  split
  · refine ⟨?_, raiseF_len _ _ _⟩
    show (raiseL _ _ _).length ≤ _
    unfold raiseL
    exact Nat.le_trans (List.length_filter_le _ _) (by rw [putL_len]; omega)
  · exact ⟨by rw [putL_len]; omega, by simp⟩
end Go.Proofs.Ytmnaggdhkggjhaa.E
