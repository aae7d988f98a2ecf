import Derived.Test.YtmnaggdhkggjhaaGreatDoorMc
import Derived.Test.YtmnaggdhkggjhaaGreatDoorMa
namespace Go.Proofs.YtmnaggdhkggjhaaGreatDoor.E
open Go Go.RowKit
set_option linter.unusedSimpArgs false
set_option linter.unusedVariables false

def pairOf (x : OneM) : Int × Rm := (x.no, (x.R, x.vs))
def ofCl (L : List OneM) (id : Int) : List (Int × Rm) := (L.filter fun x => decide (x.cl = id)).map pairOf
structure Refines (L : List OneM) (F : List (Int × Int)) (V : Int → VC) : Prop where
  sorted : L.Pairwise fun y x => ltO y x = true
  rise : Rising F
  fl : ∀ id, floorOf F id = (V id).1
  l : ∀ id, ofCl L id = (V id).2
theorem refines0 : Refines [] [] V0 := ⟨List.Pairwise.nil, List.Pairwise.nil, fun _ => rfl, fun _ => rfl⟩
theorem knownL_eq (L : List OneM) (id : Int) : knownL L id = (ofCl L id).map (·.1) := by
  unfold knownL ofCl
  rw [List.map_map]; rfl
theorem putF_get (id n : Int) : ∀ (F : List (Int × Int)), Rising F → ∀ j, getK j (putF id n F) = if j = id then some n else getK j F
  | [], _, j => by
    simp only [putF, getK]
  | (a, m) :: r, h, j => by
    obtain ⟨h1, h2⟩ := List.pairwise_cons.1 h
    rw [putF]
    split
    · rename_i ha
      rw [getK, getK, putF_get id n r h2 j]
      by_cases hj : j = a
      · rw [if_pos hj, if_pos hj, if_neg (by omega)]
      · rw [if_neg hj, if_neg hj]
    · rename_i ha
      split
      · rename_i he
        subst he
        rw [getK, getK]
        by_cases hj : j = a
        · rw [if_pos hj, if_pos hj]
        · rw [if_neg hj, if_neg hj, if_neg hj]
      · rw [getK]
theorem putF_mem {id n : Int} : ∀ {F : List (Int × Int)} {p : Int × Int}, p ∈ putF id n F → p = (id, n) ∨ p ∈ F
  | [], p, h => by simp only [putF, List.mem_cons, List.not_mem_nil, or_false] at h; exact .inl h
  | (a, m) :: r, p, h => by
    rw [putF] at h
    split at h
    · rcases List.mem_cons.1 h with h | h
      · exact .inr (by simp [h])
      · exact (putF_mem h).imp (fun h => h) (fun h => by simp [h])
    · split at h
      · rcases List.mem_cons.1 h with h | h
        · exact .inl h
        · exact .inr (by simp [h])
      · rcases List.mem_cons.1 h with h | h
        · exact .inl h
        · exact .inr h
theorem putF_rising (id n : Int) : ∀ (F : List (Int × Int)), Rising F → Rising (putF id n F)
  | [], _ => by simp [putF, Rising]
  | (a, m) :: r, h => by
    obtain ⟨h1, h2⟩ := List.pairwise_cons.1 h
    rw [putF]
    split
    · rename_i ha
      refine List.pairwise_cons.2 ⟨fun p hp => ?_, putF_rising id n r h2⟩
      rcases putF_mem hp with rfl | hp
      · exact ha
      · exact h1 p hp
    · rename_i ha
      split
      · rename_i he
        subst he
        exact List.pairwise_cons.2 ⟨h1, h2⟩
      · rename_i he
        refine List.pairwise_cons.2 ⟨fun p hp => ?_, h⟩
        rcases List.mem_cons.1 hp with rfl | hp
        · simp only; omega
        · have := h1 p hp; simp only at this ⊢; omega
theorem putF_len (id n : Int) : ∀ F : List (Int × Int), (putF id n F).length ≤ F.length + 1
  | [] => by simp [putF]
  | (a, m) :: r => by
    have ih := putF_len id n r
    rw [putF]
    split
    · simp; exact ih
    · split <;> simp
theorem raiseF_len (F : List (Int × Int)) (id n : Int) : (raiseF F id n).length ≤ F.length + 1 := by
  unfold raiseF
  split
  · exact putF_len id n F
  · omega
theorem raiseF_rising {F : List (Int × Int)} (h : Rising F) (id n : Int) : Rising (raiseF F id n) := by
  unfold raiseF
  split
  · exact putF_rising id n F h
  · exact h
theorem raiseF_floor {F : List (Int × Int)} (h : Rising F) (id n j : Int) : floorOf (raiseF F id n) j = if j = id then max (floorOf F id) n else floorOf F j := by
  unfold raiseF
  split
  · rename_i hlt
    rw [floorOf, putF_get id n F h j]
    by_cases hj : j = id
    · rw [if_pos hj, if_pos hj]
      show n = _
      omega
    · rw [if_neg hj, if_neg hj]; rfl
  · rename_i hlt
    by_cases hj : j = id
    · subst hj
      rw [if_pos rfl]; omega
    · rw [if_neg hj]
theorem ofCl_cons (y : OneM) (r : List OneM) (id : Int) : ofCl (y :: r) id = if y.cl = id then pairOf y :: ofCl r id else ofCl r id := by
  unfold ofCl
  rw [List.filter_cons]
  by_cases h : y.cl = id <;> simp [h]
theorem ltO_trans {x y z : OneM} (h1 : ltO x y = true) (h2 : ltO y z = true) : ltO x z = true := by
  simp only [ltO, Bool.or_eq_true, Bool.and_eq_true, decide_eq_true_eq] at *
  omega
theorem ltO_total {x y : OneM} (h : ¬ ltO y x = true) (hne : ¬ (y.cl = x.cl ∧ y.no = x.no)) : ltO x y = true := by
  simp only [ltO, Bool.or_eq_true, Bool.and_eq_true, decide_eq_true_eq] at *
  omega
theorem putL_sorted (x : OneM) : ∀ (L : List OneM), (L.Pairwise fun y x => ltO y x = true) → (∀ y ∈ L, ¬ (y.cl = x.cl ∧ y.no = x.no)) → (putL x L).Pairwise fun y x => ltO y x = true
  | [], _, _ => by simp [putL]
  | y :: r, h, hne => by
    obtain ⟨h1, h2⟩ := List.pairwise_cons.1 h
    rw [putL]
    split
    · rename_i hlt
      refine List.pairwise_cons.2 ⟨fun z hz => ?_, putL_sorted x r h2 fun z hz => hne z (by simp [hz])⟩
      rcases putL_mem hz with rfl | hz
      · exact hlt
      · exact h1 z hz
    · rename_i hlt
      have hxy := ltO_total hlt (hne y (by simp))
      refine List.pairwise_cons.2 ⟨fun z hz => ?_, h⟩
      rcases List.mem_cons.1 hz with rfl | hz
      · exact hxy
      · exact ltO_trans hxy (h1 z hz)
theorem insK_head {α : Type} (n : Int) (x : α) (l : List (Int × α)) (h : ∀ p ∈ l, n < p.1) : insK n x l = (n, x) :: l := by
  cases l with
  | nil => rfl
  | cons p r =>
    obtain ⟨a, u⟩ := p
    rw [insK, if_pos (h (a, u) (by simp))]
theorem putL_of (x : OneM) : ∀ (L : List OneM), (L.Pairwise fun y x => ltO y x = true) → (∀ y ∈ L, ¬ (y.cl = x.cl ∧ y.no = x.no)) → ∀ id, ofCl (putL x L) id = if id = x.cl then insK x.no (x.R, x.vs) (ofCl L id) else ofCl L id
  | [], _, _, id => by
    rw [putL, ofCl_cons]
    by_cases h : x.cl = id
    · rw [if_pos h, if_pos h.symm]; rfl
    · rw [if_neg h, if_neg (fun e => h e.symm)]
  | y :: r, h, hne, id => by
    obtain ⟨h1, h2⟩ := List.pairwise_cons.1 h
    rw [putL]
    split
    · rename_i hlt
      rw [ofCl_cons, ofCl_cons, putL_of x r h2 (fun z hz => hne z (by simp [hz])) id]
      by_cases hy : y.cl = id
      · rw [if_pos hy, if_pos hy]
        by_cases hi : id = x.cl
        · rw [if_pos hi, if_pos hi]
          have hno : y.no < x.no := by
            simp only [ltO, Bool.or_eq_true, Bool.and_eq_true, decide_eq_true_eq] at hlt
            omega
          show _ = insK x.no (x.R, x.vs) ((y.no, (y.R, y.vs)) :: ofCl r id)
          rw [insK, if_neg (by omega)]; rfl
        · rw [if_neg hi, if_neg hi]
      · rw [if_neg hy, if_neg hy]
    · rename_i hlt
      rw [ofCl_cons]
      by_cases hi : id = x.cl
      · rw [if_pos hi.symm, if_pos hi]
        refine (insK_head _ _ _ fun p hp => ?_).symm
        unfold ofCl at hp
        obtain ⟨z, hz, rfl⟩ := List.mem_map.1 hp
        obtain ⟨hz1, hz2⟩ := List.mem_filter.1 hz
        have hz2 : z.cl = id := by simpa using hz2
        have hxy := ltO_total hlt (hne y (by simp))
        have hxz : ltO x z = true := by
          rcases List.mem_cons.1 hz1 with rfl | hz1
          · exact hxy
          · exact ltO_trans hxy (h1 z hz1)
        simp only [ltO, Bool.or_eq_true, Bool.and_eq_true, decide_eq_true_eq] at hxz
        show x.no < z.no
        omega
      · rw [if_neg (fun e => hi e.symm), if_neg hi]
theorem raiseL_of (L : List OneM) (id fl j : Int) : ofCl (raiseL L id fl) j = if j = id then (ofCl L j).filter fun p => decide (fl < p.1) else ofCl L j := by
  induction L with
  | nil => unfold ofCl raiseL; simp
  | cons y r ih =>
    have e : raiseL (y :: r) id fl = if (decide (y.cl ≠ id) || decide (fl < y.no)) = true then y :: raiseL r id fl else raiseL r id fl := by
      unfold raiseL; rw [List.filter_cons]
    rw [e, ofCl_cons]
    by_cases hj : j = id
    · rw [if_pos hj] at ih ⊢
      by_cases hy : y.cl = j
      · rw [if_pos hy, List.filter_cons]
        have hyi : y.cl = id := hy.trans hj
        by_cases hf : fl < y.no
        · rw [if_pos (by simp [hf]), ofCl_cons, if_pos hy, ih, if_pos (show decide (fl < (pairOf y).1) = true from decide_eq_true hf)]
        · rw [if_neg (by simp [hf, hyi]), ih, if_neg (show ¬ decide (fl < (pairOf y).1) = true from fun hd => hf (of_decide_eq_true hd))]
      · rw [if_neg hy]
        have hyi : y.cl ≠ id := fun e => hy (by omega)
        rw [if_pos (by simp [hyi]), ofCl_cons, if_neg hy, ih]
    · rw [if_neg hj] at ih ⊢
      split
      · rw [ofCl_cons, ih]
      · rename_i hn
        have hyi : y.cl = id := by
          simp only [Bool.or_eq_true, decide_eq_true_eq, not_or] at hn
          exact Classical.not_not.1 hn.1
        rw [ih, if_neg (by omega)]
theorem raiseL_sorted {L : List OneM} (h : L.Pairwise fun y x => ltO y x = true) (id fl : Int) : (raiseL L id fl).Pairwise fun y x => ltO y x = true := h.filter _
/-- A new answer is put. -/
theorem Refines.put {L : List OneM} {F : List (Int × Int)} {V : Int → VC} (h : Refines L F V) (x : OneM) (hg : GoodV (V x.cl)) (hn : (V x.cl).1 < x.no) (hne : ∀ p ∈ (V x.cl).2, p.1 ≠ x.no) :
    Refines (putR L F x).1 (putR L F x).2 (setV V x.cl (putV (V x.cl) x.no (x.R, x.vs))) := by
  have hneL : ∀ y ∈ L, ¬ (y.cl = x.cl ∧ y.no = x.no) := fun y hy e => by
    have : pairOf y ∈ (V x.cl).2 := by
      rw [← h.l x.cl]
      exact List.mem_map.2 ⟨y, List.mem_filter.2 ⟨hy, by simpa using e.1⟩, rfl⟩
    exact hne _ this e.2
  have hso := putL_sorted x L h.sorted hneL
  have hof := putL_of x L h.sorted hneL
  have hrise := insK_rising x.no (x.R, x.vs) (V x.cl).2 hg.rise hne
  have hlen := insK_len x.no (x.R, x.vs) (V x.cl).2
  have hk : knownL (putL x L) x.cl = (insK x.no (x.R, x.vs) (V x.cl).2).map (·.1) := by rw [knownL_eq, hof, if_pos rfl, h.l]
  have h4 := hg.len
  have hab : ∀ p ∈ insK x.no (x.R, x.vs) (V x.cl).2, (V x.cl).1 < p.1 := fun p hp => by
    rcases List.mem_cons.1 ((insK_perm _ _ _).mem_iff.1 hp) with rfl | hp
    · exact hn
    · exact hg.above p hp
  unfold putR
  rw [hk, List.length_map]
  cases hI : insK x.no (x.R, x.vs) (V x.cl).2 with
  | nil => rw [hI] at hlen; simp at hlen
  | cons p r =>
    rw [hI] at hlen hrise hab
    obtain ⟨g1, g2⟩ := List.pairwise_cons.1 hrise
    by_cases hbig : 4 < (p :: r).length
    · rw [if_pos hbig]
      have h5 : (p :: r).length - 5 = 0 := by omega
      have hget : ((p :: r).map (·.1)).getD ((p :: r).length - 5) 0 = p.1 := by rw [h5]; rfl
      rw [hget]
      have hmax : floorOf (raiseF F x.cl p.1) x.cl = p.1 := by
        rw [raiseF_floor h.rise, if_pos rfl, h.fl]
        have := hab p (by simp)
        omega
      have hput : putV (V x.cl) x.no (x.R, x.vs) = (p.1, r) := by unfold putV cutV; rw [hI]; simp only; rw [if_pos hbig]
      rw [hput, hmax]
      refine ⟨raiseL_sorted hso _ _, raiseF_rising h.rise _ _, fun j => ?_, fun j => ?_⟩
      · by_cases hj : j = x.cl
        · subst hj; rw [setV_same, hmax]
        · rw [setV_other _ _ hj, raiseF_floor h.rise, if_neg hj, h.fl]
      · rw [raiseL_of, hof]
        by_cases hj : j = x.cl
        · subst hj
          rw [if_pos rfl, if_pos rfl, setV_same, h.l, hI, List.filter_cons, if_neg (by simp)]
          refine List.filter_eq_self.2 fun q hq => ?_
          have := g1 q hq
          simpa using this
        · rw [if_neg hj, if_neg hj, setV_other _ _ hj, h.l]
    · rw [if_neg hbig]
      have hput : putV (V x.cl) x.no (x.R, x.vs) = ((V x.cl).1, p :: r) := by unfold putV cutV; rw [hI]; simp only; rw [if_neg hbig]
      rw [hput]
      refine ⟨hso, h.rise, fun j => ?_, fun j => ?_⟩
      · by_cases hj : j = x.cl
        · subst hj; rw [setV_same, h.fl]
        · rw [setV_other _ _ hj, h.fl]
      · rw [hof]
        by_cases hj : j = x.cl
        · subst hj; rw [if_pos rfl, setV_same, h.l, hI]
        · rw [if_neg hj, setV_other _ _ hj, h.l]
theorem Refines.look {L : List OneM} {F : List (Int × Int)} {V : Int → VC} (h : Refines L F V) (hg : ∀ id, GoodV (V id)) {id n : Int} {o : Int × Option OneM} (ho : LookR L F id n o) : o.1 = (lookQ V id n).1 ∧ o.2.map (fun x => (x.R, x.vs)) = (lookQ V id n).2 := by
  rcases ho with ⟨hb, rfl⟩ | ⟨hb, hf, rfl⟩ | ⟨hb, hf, ho⟩
  · rw [lookQ, if_pos hb]; exact ⟨rfl, rfl⟩
  · rw [lookQ, if_neg (by rw [hb]; exact Bool.false_ne_true), lookV, if_pos (by rw [← h.fl]; exact hf)]; exact ⟨rfl, rfl⟩
  · rw [lookQ, if_neg (by rw [hb]; exact Bool.false_ne_true), lookV, if_neg (by rw [← h.fl]; exact hf)]
    rcases ho with ⟨x, hx, hc, hn, rfl⟩ | ⟨hno, rfl⟩
    · have hm : (n, (x.R, x.vs)) ∈ (V id).2 := by
        rw [← h.l id]
        exact List.mem_map.2 ⟨x, List.mem_filter.2 ⟨hx, by simpa using hc⟩, by rw [pairOf, hn]⟩
      rw [getK_of_mem (hg id).rise.nodup hm]
      exact ⟨rfl, rfl⟩
    · rw [getK_none_of n (V id).2 fun p hp e => ?_]
      · exact ⟨rfl, rfl⟩
      · rw [← h.l id] at hp
        obtain ⟨x, hx, rfl⟩ := List.mem_map.1 hp
        obtain ⟨h1, h2⟩ := List.mem_filter.1 hx
        exact hno x h1 ⟨by simpa using h2, e⟩
theorem putR_len (L : List OneM) (F : List (Int × Int)) (x : OneM) : (putR L F x).1.length ≤ L.length + 1 ∧ (putR L F x).2.length ≤ F.length + 1 := by
  unfold putR
  split
  · refine ⟨?_, raiseF_len _ _ _⟩
    show (raiseL _ _ _).length ≤ _
    unfold raiseL
    exact Nat.le_trans (List.length_filter_le _ _) (by rw [putL_len]; omega)
  · exact ⟨by rw [putL_len]; omega, by simp⟩
end Go.Proofs.YtmnaggdhkggjhaaGreatDoor.E
namespace Go.Proofs.YtmnaggdhkggjhaaGreatDoor.E
open Go Go.RowKit
set_option linter.unusedSimpArgs false
set_option linter.unusedVariables false

structure RefV (hu : Nat) (c : Nat → Nat) (w : World) (g : Nat) (V : Int → VC) (N : Nat) : Prop where
  good : ∀ id, GoodV (V id)
  out : ∃ vL vF L F, RefAt hu c w g vL vF L F ∧ Refines L F V ∧ L.length ≤ N ∧ (F.length ≤ N ∧ ∀ p ∈ F, 0 < p.2)
section
variable {hu : Nat} {c c' : Nat → Nat} {w w' : World} {g : Nat} {V : Int → VC} {N : Nat}
theorem RefV.turns {G : Nat → Prop} (h : RefV hu c w g V N) (hT : Turns G w w') (hG : ∀ k, G k → c k % 1000 ≠ hu ∧ c k ≠ 999) : RefV hu c w' g V N := by
  obtain ⟨vL, vF, L, F, h1, h2⟩ := h.out
  exact ⟨h.good, vL, vF, L, F, h1.turns hT hG, h2⟩
theorem RefV.below (h : RefV hu c w g V N) (hb : Below w.heap.size w w') : RefV hu c w' g V N := by
  obtain ⟨vL, vF, L, F, h1, h2⟩ := h.out
  exact ⟨h.good, vL, vF, L, F, h1.below hb, h2⟩
theorem RefV.re (h : RefV hu c w g V N) (hc : ∀ k, k < w.heap.size → c' k = c k) : RefV hu c' w g V N := by
  obtain ⟨vL, vF, L, F, h1, h2⟩ := h.out
  exact ⟨h.good, vL, vF, L, F, h1.re hc, h2⟩
theorem RefV.mono (h : RefV hu c w g V N) {M : Nat} (hm : N ≤ M) : RefV hu c w g V M := by
  obtain ⟨vL, vF, L, F, h1, h2, h3, h4⟩ := h.out
  exact ⟨h.good, vL, vF, L, F, h1, h2, by omega, by omega, h4.2⟩
theorem RefV.hh (h : RefV hu c w g V N) : 0 < hu ∧ hu < 999 := by
  obtain ⟨vL, vF, L, F, h1, h2⟩ := h.out
  exact h1.hh
/-- It stands where only blocks of another colour turn. -/
theorem RefV.on {hu2 : Nat} (h : RefV hu c w g V N) (hT : Turns (Dh hu2 c) w w') (hne : hu2 ≠ hu) (h9 : hu2 < 999) (hc : ∀ k, k < w.heap.size → c' k = c k) : RefV hu c' w' g V N := by
  refine (h.re hc).turns hT.cut fun k hk => ?_
  have e : c k % 1000 = hu2 := hk.1
  rw [hc k hk.2]
  exact ⟨by omega, by omega⟩
end
theorem refLook_V {hu : Nat} {c : Nat → Nat} {w : World} {g : Nat} {V : Int → VC} {N : Nat} (id n : Int) (h : RefV hu c w g V N) (hN : N ≤ 70000) :
    CallP Tryz.prog 23 #[.pointer (some ⟨g, 0, none⟩), .int .i64 id, .int .i64 n] (fun r w' => ∃ p q, r = .tuple #[.agg ((toldQR (lookQ V id n).2).cells p q), .int .i64 (lookQ V id n).1] ∧ Vals w' [p] (toldQV (lookQ V id n).2) ∧ RowsR w' [q] [] ∧ p.oneCell' = true ∧ q.oneCell' = true ∧ Below w.heap.size w w') w := by
  obtain ⟨vL, vF, L, F, h1, h2, h3, h4⟩ := h.out
  refine (refLook_spec id n h1 (by omega) (by omega)).mono ?_
  rintro _ w' ⟨o, ho, rfl, hb⟩
  obtain ⟨e1, e2⟩ := h2.look h.good ho
  have hmem : ∀ x, o.2 = some x → x ∈ L := by
    rcases ho with ⟨_, rfl⟩ | ⟨_, _, rfl⟩ | ⟨_, _, ⟨x, hx, _, _, rfl⟩ | ⟨_, rfl⟩⟩
    · intro y hy; cases hy
    · intro y hy; cases hy
    · intro y hy; cases hy; exact hx
    · intro y hy; cases hy
  rw [← e1, ← e2]
  cases h0 : o.2 with
  | none => exact ⟨.slice none 0 0, .slice none 0 0, rfl, Vals.nil _, RowsR.nil _ 0 (by decide), rfl, rfl, hb⟩
  | some x =>
    have hE := h1.el x (hmem x h0)
    have hE' : ElAt c w' x := hE.turns (G := fun _ => False) (Turns.of_below hb) (fun _ h => h.elim)
    exact ⟨x.p, x.q, rfl, hE'.vals, hE.noRows, hE.one, hE.oneq, hb⟩
theorem refFloor_V {hu : Nat} {c : Nat → Nat} {w : World} {g : Nat} {V : Int → VC} {N : Nat} (id : Int) (h : RefV hu c w g V N) (hN : N ≤ 70000) :
    CallP Tryz.prog 35 #[.pointer (some ⟨g, 0, none⟩), .int .i64 id] (fun r w' => r = .int .i64 (V id).1 ∧ w = w') w := by
  obtain ⟨vL, vF, L, F, h1, h2, h3, h4⟩ := h.out
  refine (refFloor_spec id h1 (by omega)).mono ?_
  rintro _ w' ⟨rfl, rfl⟩
  rw [h2.fl]; exact ⟨rfl, rfl⟩
theorem refKnown_V {hu : Nat} {c : Nat → Nat} {w : World} {g : Nat} {V : Int → VC} {N : Nat} (id : Int) (h : RefV hu c w g V N) (hN : N ≤ 70000) :
    CallP Tryz.prog 38 #[.pointer (some ⟨g, 0, none⟩), .int .i64 id] (fun r w' => Own 3 w' r (((V id).2.map (·.1)).map (Value.int .i64)) ∧ Fresh w.heap.size r ∧ Below w.heap.size w w') w := by
  obtain ⟨vL, vF, L, F, h1, h2, h3, h4⟩ := h.out
  refine (refKnown_spec id h1 (by omega)).mono ?_
  rintro r w' ⟨h5, h6, h7⟩
  rw [knownL_eq, h2.l] at h5
  exact ⟨h5, h6, h7⟩
theorem raiseF_pos {F : List (Int × Int)} (hp : ∀ p ∈ F, 0 < p.2) (id n : Int) (h0 : 0 ≤ floorOf F id) : ∀ p ∈ raiseF F id n, 0 < p.2 := by
  unfold raiseF
  split
  · intro p h
    rcases putF_mem h with rfl | h
    · simp only; omega
    · exact hp p h
  · exact hp
theorem putR_pos {L : List OneM} {F : List (Int × Int)} {V : Int → VC} (h : Refines L F V) (hg : ∀ id, GoodV (V id)) (hp : ∀ p ∈ F, 0 < p.2) (x : OneM) : ∀ p ∈ (putR L F x).2, 0 < p.2 := by
  have hf := (hg x.cl).fl
  unfold putR
  split
  · exact raiseF_pos hp _ _ (by rw [h.fl]; exact hf.1)
  · exact hp
theorem refKeep_V {hu : Nat} {c : Nat → Nat} {w : World} {g : Nat} {V : Int → VC} {N : Nat} (id n : Int) (R : Rep) (p q : Value) (vs : List ValT) (rows : List RowT) (h : RefV hu c w g V N)
    (hp : Vals w [p] vs) (hq : RowsR w [q] rows) (hvl : vs.length ≤ 1000) (hN : N ≤ 60000) :
    CallP Tryz.prog 8 #[.pointer (some ⟨g, 0, none⟩), .int .i64 id, .int .i64 n, .agg (R.cells p q)]
      (fun r w' => r = .int .i64 (keepQ V id n R vs rows.length).1 ∧ ∃ c', (∀ k, k < w.heap.size → c' k = c k) ∧ RefV hu c' w' g (keepQ V id n R vs rows.length).2 (N + 1) ∧ Turns (Dh hu c) w w') w := by
  obtain ⟨vL, vF, L, F, h1, h2, h3, h4⟩ := h.out
  have hgood := keepQ_good h.good id n R vs rows.length (vals_ok hp)
  have hhu := h1.hh
  refine (refKeep_spec id n R p q vs rows h1 hp hq hvl (by omega) (by omega)).mono ?_
  intro r w' hk
  have stay : ∀ {e : Int}, r = .int .i64 e → Below w.heap.size w w' → keepQ V id n R vs rows.length = (e, V) → r = .int .i64 (keepQ V id n R vs rows.length).1 ∧ ∃ c', (∀ k, k < w.heap.size → c' k = c k) ∧ RefV hu c' w' g (keepQ V id n R vs rows.length).2 (N + 1) ∧ Turns (Dh hu c) w w' := by
    intro e he hb hke
    rw [hke]
    exact ⟨he, c, fun _ _ => rfl, (h.below hb).mono (by omega), Turns.of_below hb⟩
  rcases hk with ⟨harg, hr, hb⟩ | ⟨harg, o, ho, hk⟩
  · exact stay hr hb (by rw [keepQ, if_pos harg])
  · obtain ⟨e1, _⟩ := h2.look h.good ho
    have hargF : ¬ argP id n R vs rows.length = true := by rw [harg]; exact Bool.false_ne_true
    rcases hk with ⟨e, hr, hb⟩ | ⟨e, hr, hb⟩ | ⟨e, hr, c', vL', vF', p', hc', hR', hT'⟩
    · rw [e1] at e
      exact stay hr hb (by rw [keepQ, if_neg hargF, if_neg (by rw [e]; decide), if_pos e])
    · rw [e1] at e
      exact stay hr hb (by rw [keepQ, if_neg hargF, if_pos e])
    · rw [e1] at e
      have h12 : (lookQ V id n).1 ≠ 12 := by rw [e]; decide
      have h0 : (lookQ V id n).1 ≠ 0 := by rw [e]; decide
      have hke : keepQ V id n R vs rows.length = (0, setV V id (putV (V id) n (R, vs))) := by rw [keepQ, if_neg hargF, if_neg h12, if_neg h0]
      rw [hke] at hgood ⊢
      obtain ⟨_, _, hn3, hn4⟩ := lookQ_new (lookQ_bad (argP_bad harg)) h12 h0
      have hlen := putR_len L F ⟨id, n, R, p', q, vs⟩
      refine ⟨hr, c', hc', ⟨hgood, vL', vF', _, _, hR', h2.put ⟨id, n, R, p', q, vs⟩ (h.good id) hn3 hn4, by omega, by omega, putR_pos h2 h.good h4.2 _⟩, hT'.mono fun k _ e => ?_⟩
      rw [e, Dh, h1.hue]; omega
theorem newRef_V {hu : Nat} (hh : 0 < hu ∧ hu < 999) (c : Nat → Nat) (w : World) : RefV hu (col c w.heap.size hu) (w.alloc (.cells (Value.agg #[.slice none 0 0, .slice none 0 0]).cells 32)) w.heap.size V0 0 := by
  refine ⟨fun _ => goodV0, .slice none 0 0, .slice none 0 0, [], [], ⟨hh, col_ge _ _ _ (Nat.le_refl _), Blk.new w 32 _, ⟨by simp, .inl ⟨rfl, rfl⟩⟩, ⟨by simp, .inl ⟨rfl, rfl⟩⟩, InC.nil _ _ _ _, InC.nil _ _ _ _, fun x hx => by simp at hx⟩, refines0, by simp, by simp, by simp⟩
/-- Does a table say what the reference's says? -/
theorem same_spec {h1 h2 : Nat} {c : Nat → Nat} {w : World} {ga gm : Nat} {V : Int → VC} {N M : Nat} (v : Value) (l : List ActT) (hA : TabV h1 c w ga V N) (hM : RefV h2 c w gm V M) (hN : M ≤ 60000) (hv : Acts w [v] l) (hl : l.length ≤ 1000) :
    CallP Tryz.prog 11 #[.pointer (some ⟨ga, 0, none⟩), .pointer (some ⟨gm, 0, none⟩), v] (fun r w' => r = .bool true ∧ Below w.heap.size w w') w := by
  obtain ⟨A, cA, rfl, _, hmA⟩ := hv.slice
  refine ⟨S11.calls _ _ _ _ _ ?_⟩
  unfold S11
  refine ofPR (pr_pnil und30) ?_
  simp only [Option.isNone_some]
  (repeat with_reducible first|refine z_c ?_)
  refine LoopP.inv1 (fun iv w' => ∃ k : Nat, k ≤ l.length ∧ iv = .int .i64 k ∧ Below w.heap.size w w') (fun iv _ => l.length - (intOf iv).toNat) ⟨0, by omega, rfl, Below.refl _ _⟩ ?_
  rintro _ w1 ⟨k, hk, rfl, hb1⟩ J hJ
  dsimp only [List.headD_cons, List.tail_cons]
  refine ln und39 ?_
  refine bi_lss_c (fun h => ?_) (fun h => ?_)
  · have hk' : k < l.length := by omega
    obtain ⟨a, p, q, rfl, _, hc1, hc2, hcell, hp, hq⟩ := act_at hv k hk'
    have r1 : ∀ w', Below w.heap.size w w' → w'.cell? ((a.add (k * 8)).add 1) = some (.int .i64 l[k].cl) := fun w' h => by rw [h.cell (World.block_lt_of_cell? _ _ hc1), hc1]
    have r2 : ∀ w', Below w.heap.size w w' → w'.cell? ((a.add (k * 8)).add 2) = some (.int .i64 l[k].no) := fun w' h => by rw [h.cell (World.block_lt_of_cell? _ _ hc2), hc2]
    have hdr : Below w1.heap.size w1 w1.drew := (Below.refl _ _).drew
    have hb1d := below_then hb1 hdr
    (repeat with_reducible first|refine z_b ?_)
    refine draw (Below w.heap.size w) hb1d ?_
    (repeat with_reducible first|refine yixA und39 sz47 k hk' ?_|refine yfdA q1 (by decide) ?_|refine yfdA q2 (by decide) ?_|refine yl1 one3 r1 ?_|refine yl1 one3 r2 ?_)
    have hA1 := hA.below hb1d
    have hM1 := hM.below hb1d
    have hok := lookQ_ok hA.good l[k].cl l[k].no
    refine (Look_V l[k].cl l[k].no hA1).mono ?_
    rintro _ w2 ⟨p2, rfl, ho2, hf2, hb2⟩
    have h1p : p2.oneCell' = true := by obtain ⟨A, e⟩ := ho2.slice; rw [e]; rfl
    (repeat with_reducible first|refine z_A ?_|refine z_B ?_)
    refine newRep h1p rfl ?_
    intro w3 hB3 hb3
    have ho3 := ho2.below hb3
    have hb13 := below_then hb2 hb3
    refine (refLook_V l[k].cl l[k].no (hM1.below hb13) (by omega)).mono ?_
    rintro _ w4 ⟨p4, q4, rfl, hv4, hq4, h1p4, h1q4, hb4⟩
    (repeat with_reducible first|refine z_A ?_|refine z_B ?_)
    refine newRep h1p4 h1q4 ?_
    intro w5 hB5 hb5
    have hb35 := below_then hb4 hb5
    have hB3' := hB3.below' hb35
    have ho5 := ho3.below hb35
    have hb15 := below_then hb13 hb35
    refine bi_neq ?_
    rw [decide_eq_false (by simp)]
    (repeat with_reducible first|refine z_d ?_)
    refine ldA agg27 hB3' (by exact sz27) ?_
    (repeat with_reducible first|refine z_d ?_)
    refine ldA agg27 hB5 (by exact sz27) ?_
    (repeat with_reducible first|refine z_d ?_)
    have hv2 : Vals w5 [p2] (toldQV (lookQ V l[k].cl l[k].no).2) := ho5.rd (l := toldQV (lookQ V l[k].cl l[k].no).2) (fun _ => rfl) fun x hx => rVal_of (hok x hx)
    refine (sameRep_spec _ _ _ _ _ _ w5 hv2 (keeps_Vals _ _ _ _ hb5 hv4) (RowsR.nil _ 0 (by decide)) (keeps_RowsR _ _ _ _ hb5 hq4)).mono ?_
    rintro _ w6 ⟨rfl, hb6⟩
    (repeat with_reducible first|refine z_d ?_|refine z_l ?_|refine z_E ?_)
    have hb16 := below_then hb15 hb6
    have hA6 := hA1.below hb16
    have hM6 := hM1.below hb16
    refine (Floor_V l[k].cl hA6).mono ?_
    rintro _ _ ⟨rfl, rfl⟩
    (repeat with_reducible first|refine z_d ?_)
    refine (refFloor_V l[k].cl hM6 (by omega)).mono ?_
    rintro _ _ ⟨rfl, rfl⟩
    (repeat with_reducible first|refine z_d ?_|refine z_l ?_|refine z_t (by omega) ?_)
    refine (Known_V l[k].cl hA6).mono ?_
    rintro r7 w7 ⟨ho7, hf7, hb7⟩
    (repeat with_reducible first|refine z_d ?_)
    refine (refKnown_V l[k].cl (hM6.below hb7) (by omega)).mono ?_
    rintro r8 w8 ⟨ho8, hf8, hb8⟩
    (repeat with_reducible first|refine z_d ?_)
    have h4 := (hA.good l[k].cl).len
    refine (sameInts_spec r7 r8 _ w8 (ho7.below hb8).rd ho8.rd (by rw [List.length_map]; omega)).mono ?_
    rintro _ w9 ⟨rfl, hb9⟩
    (repeat with_reducible first|refine z_c ?_|refine z_d ?_|refine z_l ?_|refine z_o (by omega) ?_|refine z_E ?_)
    exact hJ _ _ ⟨k + 1, by omega, by simp, below_then (below_then (below_then (below_then hb1d hb16) hb7) hb8) hb9⟩ (by simp [intOf]; omega)
  · (repeat with_reducible first|refine z_c ?_)
    exact ⟨trivial, hb1⟩
end Go.Proofs.YtmnaggdhkggjhaaGreatDoor.E
namespace Go.Proofs.YtmnaggdhkggjhaaGreatDoor.E
open Go Go.RowKit
set_option linter.unusedSimpArgs false
set_option linter.unusedVariables false

abbrev XC := Int × (Int → Option Rm)
def x0 : XC := (0, fun _ => none)
theorem CliAt.nodup {c : Nat → Nat} {x : Nat} {w : World} {C : Cli} (h : CliAt c x w C) : (C.l.map (·.1)).Nodup := by
  have := h.map.nodup
  rwa [List.map_map] at this
end Go.Proofs.YtmnaggdhkggjhaaGreatDoor.E
namespace Go.Proofs.YtmnaggdhkggjhaaGreatDoor.E
open Go Go.RowKit
set_option linter.unusedSimpArgs false
set_option linter.unusedVariables false

theorem TabAt.nodup {hu : Nat} {c : Nat → Nat} {w : World} {g bm : Nat} {T : List (Int × Cli)} (h : TabAt hu c w g bm T) : (T.map (·.1)).Nodup := by
  have := h.map.nodup
  rwa [List.map_map] at this
theorem TabAt.keys {hu : Nat} {c : Nat → Nat} {w : World} {g bm : Nat} {T : List (Int × Cli)} (h : TabAt hu c w g bm T) {p : Int × Cli} (hp : p ∈ T) : 0 ≤ p.1 ∧ p.1 ≤ 9223372036854775807 := by
  refine ⟨(h.el p hp).1, ?_⟩
  obtain ⟨es, cl, _, _, _, _, h5⟩ := h.map
  have := h5 (p.1, .pointer (some ⟨p.2.gc, 0, none⟩)) (List.mem_map.2 ⟨p, hp, rfl⟩)
  simp [Lit.wf, IntKind.min, IntKind.max, IntKind.signed, IntKind.bits] at this
  omega
/-- A table that stands, in later colours. -/
theorem TabAt.on {hu : Nat} {c c' : Nat → Nat} {w w' : World} {g bm : Nat} {T : List (Int × Cli)} {F : Nat → Prop} (h : TabAt hu c w g bm T) (hT : Turns F w w') (hF : ∀ k, k < w.heap.size → F k → c k % 1000 ≠ hu) (hc : ∀ k, k < w.heap.size → c' k = c k) : TabAt hu c' w' g bm T :=
  (h.re hc).turns hT.cut fun k hk => by rw [hc k hk.2]; exact hF k hk.2 hk.1
theorem CliAt.on {x : Nat} {c c' : Nat → Nat} {w w' : World} {C : Cli} {F : Nat → Prop} (h : CliAt c x w C) (hT : Turns F w w') (hF : ∀ k, k < w.heap.size → F k → c k ≠ x) (hc : ∀ k, k < w.heap.size → c' k = c k) : CliAt c' x w' C :=
  (h.re hc).turns hT.cut fun k hk => by rw [hc k hk.2]; exact hF k hk.2 hk.1
end Go.Proofs.YtmnaggdhkggjhaaGreatDoor.E
