/- What is known of clients, told without memory: a client's floor, and its answers by rising numbers. -/
import Derived.Test.YtmnaggdhkggjhaaOnF
namespace Go.Proofs.Ytmnaggdhkggjhaa.E
open Go Go.RowKit
set_option linter.unusedSimpArgs false
set_option linter.unusedVariables false

/-! ### rows of keys and values, by rising keys -/
theorem getK_none_mem {α : Type} (k : Int) : ∀ l : List (Int × α), getK k l = none → ∀ p ∈ l, p.1 ≠ k
  | [], _, p, hp => by simp at hp
  | (a, u) :: r, h, p, hp => by
    rw [getK] at h
    split at h
    · cases h
    · rename_i hk
      rcases List.mem_cons.1 hp with rfl | hp
      · exact fun e => hk e.symm
      · exact getK_none_mem k r h p hp
theorem getK_none_of {α : Type} (k : Int) : ∀ l : List (Int × α), (∀ p ∈ l, p.1 ≠ k) → getK k l = none
  | [], _ => rfl
  | (a, u) :: r, h => by
    rw [getK, if_neg (fun e => h (a, u) (by simp) e.symm)]
    exact getK_none_of k r fun p hp => h p (by simp [hp])
theorem getK_perm {α : Type} {l l' : List (Int × α)} (h : l.Perm l') (hn : (l'.map (·.1)).Nodup) (k : Int) : getK k l = getK k l' := by
  cases hx : getK k l with
  | none =>
    refine (getK_none_of k l' fun p hp => ?_).symm
    exact getK_none_mem k l hx p (h.mem_iff.2 hp)
  | some v => exact (getK_of_mem hn (h.mem_iff.1 (getK_mem k v l hx))).symm
def insK {α : Type} (n : Int) (x : α) : List (Int × α) → List (Int × α)
  | [] => [(n, x)]
  | (a, u) :: r => if n < a then (n, x) :: (a, u) :: r else (a, u) :: insK n x r
theorem insK_perm {α : Type} (n : Int) (x : α) : ∀ l : List (Int × α), (insK n x l).Perm ((n, x) :: l)
  | [] => List.Perm.refl _
  | (a, u) :: r => by
    rw [insK]
    split
    · exact List.Perm.refl _
    · exact ((insK_perm n x r).cons (a, u)).trans (List.Perm.swap _ _ _)
def Rising {α : Type} (l : List (Int × α)) : Prop := l.Pairwise fun p q => p.1 < q.1
theorem insK_rising {α : Type} (n : Int) (x : α) : ∀ l : List (Int × α), Rising l → (∀ p ∈ l, p.1 ≠ n) → Rising (insK n x l)
  | [], _, _ => by simp [insK, Rising]
  | (a, u) :: r, h, hne => by
    obtain ⟨h1, h2⟩ := List.pairwise_cons.1 h
    rw [insK]
    split
    · rename_i hlt
      refine List.pairwise_cons.2 ⟨fun p hp => ?_, h⟩
      rcases List.mem_cons.1 hp with rfl | hp
      · exact hlt
      · have := h1 p hp; simp only at this ⊢; omega
    · rename_i hlt
      refine List.pairwise_cons.2 ⟨fun p hp => ?_, insK_rising n x r h2 fun p hp => hne p (by simp [hp])⟩
      have hna := hne (a, u) (by simp)
      rcases List.mem_cons.1 ((insK_perm n x r).mem_iff.1 hp) with rfl | hp
      · simp only at hna ⊢; omega
      · exact h1 p hp
theorem Rising.nodup {α : Type} {l : List (Int × α)} (h : Rising l) : (l.map (·.1)).Nodup := by
  refine List.pairwise_map.2 (h.imp fun hlt e => ?_)
  omega
theorem insK_len {α : Type} (n : Int) (x : α) (l : List (Int × α)) : (insK n x l).length = l.length + 1 := by rw [(insK_perm n x l).length_eq]; rfl

/-! ### a client's view -/
abbrev Rm := Rep × List ValT
abbrev VC := Int × List (Int × Rm)
def Rp.abs (m : Rp) : Rm := (m.R, m.vs)
def absL (l : List (Int × Rp)) : List (Int × Rm) := l.map fun p => (p.1, p.2.abs)
structure GoodV (v : VC) : Prop where
  rise : Rising v.2
  len : v.2.length ≤ 4
  above : ∀ p ∈ v.2, v.1 < p.1
  ok : ∀ p ∈ v.2, ∀ x ∈ p.2.2, valOk x
  key : ∀ p ∈ v.2, 1 ≤ p.1 ∧ p.1 ≤ 1099511627776
  fl : 0 ≤ v.1 ∧ v.1 ≤ 1099511627776
theorem goodV0 : GoodV (0, []) := ⟨List.Pairwise.nil, by simp, fun p hp => by simp at hp, fun p hp => by simp at hp, fun p hp => by simp at hp, by simp⟩
def lookV (v : VC) (n : Int) : Int × Option Rm := if n ≤ v.1 then (12, none) else match getK n v.2 with
  | some m => (0, some m)
  | none => (7, none)
/-- What is too much is forgotten. -/
def cutV (fl : Int) (l : List (Int × Rm)) : VC := match l with
  | [] => (fl, [])
  | p :: r => if 4 < (p :: r).length then (p.1, r) else (fl, p :: r)
def putV (v : VC) (n : Int) (x : Rm) : VC := cutV v.1 (insK n x v.2)
theorem putV_good {v : VC} (h : GoodV v) {n : Int} {x : Rm} (hn : v.1 < n) (hk : 1 ≤ n ∧ n ≤ 1099511627776) (hne : ∀ p ∈ v.2, p.1 ≠ n) (hx : ∀ y ∈ x.2, valOk y) : GoodV (putV v n x) := by
  have hr := insK_rising n x v.2 h.rise hne
  have hl := insK_len n x v.2
  have hm : ∀ p ∈ insK n x v.2, p = (n, x) ∨ p ∈ v.2 := fun p hp => List.mem_cons.1 ((insK_perm n x v.2).mem_iff.1 hp)
  have h4 := h.len
  unfold putV cutV
  cases he : insK n x v.2 with
  | nil => rw [he] at hl; simp at hl
  | cons p r =>
    rw [he] at hr hl hm
    simp only
    split
    · obtain ⟨h1, h2⟩ := List.pairwise_cons.1 hr
      have hp := hm p (by simp)
      refine ⟨h2, by simp at hl ⊢; omega, fun q hq => h1 q hq, fun q hq => ?_, fun q hq => ?_, ?_⟩
      · rcases hm q (by simp [hq]) with rfl | hq
        · exact hx
        · exact h.ok q hq
      · rcases hm q (by simp [hq]) with rfl | hq
        · exact hk
        · exact h.key q hq
      · rcases hp with rfl | hp
        · simp only; omega
        · have := h.key p hp; simp only; omega
    · rename_i hlen
      refine ⟨hr, by simp only; omega, fun q hq => ?_, fun q hq => ?_, fun q hq => ?_, h.fl⟩
      · rcases hm q hq with rfl | hq
        · exact hn
        · exact h.above q hq
      · rcases hm q hq with rfl | hq
        · exact hx
        · exact h.ok q hq
      · rcases hm q hq with rfl | hq
        · exact hk
        · exact h.key q hq
/-- A client in memory is seen so. -/
structure Sees (C : Cli) (v : VC) : Prop where
  fl : C.fl = v.1
  l : (absL C.l).Perm v.2
theorem absL_keys (l : List (Int × Rp)) : (absL l).map (·.1) = l.map (·.1) := by simp [absL, Function.comp_def]
theorem Sees.keys {C : Cli} {v : VC} (h : Sees C v) : (C.l.map (·.1)).Perm (v.2.map (·.1)) := by
  have := h.l.map (·.1)
  rwa [absL_keys] at this
theorem Sees.get {C : Cli} {v : VC} (h : Sees C v) (hg : GoodV v) (n : Int) : (getK n C.l).map Rp.abs = getK n v.2 := by
  rw [← getK_map Rp.abs]
  exact getK_perm h.l hg.rise.nodup n
theorem Sees.nodup {C : Cli} {v : VC} (h : Sees C v) (hg : GoodV v) : (C.l.map (·.1)).Nodup := h.keys.symm.nodup hg.rise.nodup
theorem minK_head {α β : Type} {l : List (Int × α)} {p : Int × β} {r : List (Int × β)} (hp : (l.map (·.1)).Perm ((p :: r).map (·.1))) (hr : Rising (p :: r)) : minK l = p.1 := by
  have hne : l ≠ [] := fun e => by have := hp.length_eq; rw [e] at this; simp at this
  obtain ⟨q1, q2⟩ := minK_spec l hne
  refine min_unique hp q1 q2 (by simp) fun y hy => ?_
  obtain ⟨q, hq, rfl⟩ := List.mem_map.1 hy
  rcases List.mem_cons.1 hq with rfl | hq
  · exact Int.le_refl _
  · have := (List.pairwise_cons.1 hr).1 q hq; omega
theorem perm_filter_tail {l : List (Int × Rm)} {p : Int × Rm} {r : List (Int × Rm)} (h : l.Perm (p :: r)) (hr : Rising (p :: r)) (hn : (l.map (·.1)).Nodup) : (delK p.1 l).Perm r := by
  rw [delK_filter p.1 l hn]
  have h1 := h.filter fun q => decide (q.1 ≠ p.1)
  refine h1.trans ?_
  rw [List.filter_cons]
  simp only [ne_eq, not_true_eq_false, decide_false, Bool.false_eq_true, if_false]
  rw [List.filter_eq_self.2 fun q hq => ?_]
  have := (List.pairwise_cons.1 hr).1 q hq
  simp only [decide_eq_true_eq]
  omega
/-- A new answer, and the trimming behind it. -/
theorem Sees.put {C : Cli} {v : VC} (h : Sees C v) (hg : GoodV v) {n : Int} {m : Rp} (hn : v.1 < n) (hne : ∀ p ∈ v.2, p.1 ≠ n) (gc br : Nat) :
    Sees ⟨gc, br, (trimP C.fl (C.l ++ [(n, m)])).1, (trimP C.fl (C.l ++ [(n, m)])).2⟩ (putV v n m.abs) := by
  have hall : (C.l ++ [(n, m)]).filter (fun p => decide (C.fl < p.1)) = C.l ++ [(n, m)] := List.filter_eq_self.2 fun p hp => by
    simp only [decide_eq_true_eq]
    rw [h.fl]
    rcases List.mem_append.1 hp with hp | hp
    · have : p.1 ∈ C.l.map (·.1) := List.mem_map.2 ⟨p, hp, rfl⟩
      rw [h.keys.mem_iff] at this
      obtain ⟨q, hq, he⟩ := List.mem_map.1 this
      rw [← he]; exact hg.above q hq
    · simp only [List.mem_cons, List.not_mem_nil, or_false] at hp
      subst hp; exact hn
  have hperm : (absL (C.l ++ [(n, m)])).Perm (insK n m.abs v.2) := by
    refine List.Perm.trans ?_ (insK_perm n m.abs v.2).symm
    unfold absL
    rw [List.map_append]
    refine (List.perm_append_comm).trans ?_
    exact h.l.cons _
  have hr := insK_rising n m.abs v.2 hg.rise hne
  have hlen : (C.l ++ [(n, m)]).length = (insK n m.abs v.2).length := by have := hperm.length_eq; simpa [absL] using this
  have hl5 : (insK n m.abs v.2).length ≤ 5 := by rw [insK_len]; have := hg.len; omega
  have htr : trimP C.fl (C.l ++ [(n, m)]) = shrink (C.l ++ [(n, m)]).length C.fl (C.l ++ [(n, m)]) := by unfold trimP; rw [hall]
  rw [htr]
  generalize C.l ++ [(n, m)] = L at *
  unfold putV cutV
  cases he : insK n m.abs v.2 with
  | nil => have := insK_len n m.abs v.2; rw [he] at this; simp at this
  | cons p r =>
    rw [he] at hperm hr hlen hl5
    simp only
    split
    · rename_i h4
      have hk : minK L = p.1 := minK_head (l := L) (p := p) (r := r) (by have := hperm.map (·.1); rwa [absL_keys] at this) hr
      have hnd : (L.map (·.1)).Nodup := by
        have := (hperm.map (·.1)).symm.nodup hr.nodup
        rwa [absL_keys] at this
      have h5 : L.length = 4 + 1 := by omega
      have hd : (absL (delK p.1 L)).Perm r := by
        unfold absL
        rw [← delK_map Rp.abs]
        exact perm_filter_tail hperm hr (by have := absL_keys L; unfold absL at this; rw [this]; exact hnd)
      have hdl : (delK p.1 L).length ≤ 4 := by
        have := hd.length_eq
        simp only [absL, List.length_map, List.length_cons] at this hl5
        omega
      rw [h5, shrink, if_pos (by omega), hk, shrink_small _ _ _ hdl]
      exact ⟨rfl, hd⟩
    · rename_i h4
      rw [shrink_small _ _ _ (by omega)]
      exact ⟨h.fl, hperm⟩
end Go.Proofs.Ytmnaggdhkggjhaa.E
