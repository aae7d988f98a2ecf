import Derived.Test.YtonblppkidpmlaaGreatDoorMa
namespace Go.Proofs.YtonblppkidpmlaaGreatDoor.E
open Go Go.RowKit
set_option linter.unusedSimpArgs false
set_option linter.unusedVariables false

abbrev txt (x : ValT) : List UInt8 := x.2.2.1.data.toList
def cI (a b : Int) : Int := if a < b then -1 else if b < a then 1 else 0
def cT (a b : List UInt8) : Int := if a < b then -1 else if b < a then 1 else 0
def cmpV (x y : ValT) : Int := fstE [cI x.1 y.1, cI x.2.1 y.2.1, cT (txt x) (txt y)]
def belowV (x y : ValT) : Bool := decide (if x.1 ≠ y.1 then x.1 < y.1 else if x.1 = 1 then x.2.1 < y.2.1 else txt x < txt y)
def cmpR : List ValT → List ValT → Int
  | [], [] => 0
  | [], _ :: _ => -1
  | _ :: _, [] => 1
  | x :: r, y :: s => if cmpV x y ≠ 0 then cmpV x y else cmpR r s
def compV (a b : List ValT) : Int := if rowE a ≠ 0 ∨ rowE b ≠ 0 then 0 else cmpR a b
theorem fstE_cons (a : Int) (l : List Int) : fstE (a :: l) = if a ≠ 0 then a else fstE l := by
  unfold fstE
  split
  · rename_i h; rw [List.find?_cons_of_pos (by simpa using h)]; rfl
  · rename_i h; rw [List.find?_cons_of_neg (by simpa using h)]
theorem fstE_nil : fstE [] = 0 := rfl
theorem cI_self (a : Int) : cI a a = 0 := by unfold cI; rw [if_neg (by omega), if_neg (by omega)]
theorem cT_self (a : List UInt8) : cT a a = 0 := by unfold cT; rw [if_neg (List.lt_irrefl a), if_neg (List.lt_irrefl a)]
theorem cI_ne {a b : Int} (h : a ≠ b) : cI a b ≠ 0 ∧ (cI a b = -1 ↔ a < b) ∧ (cI a b = 1 ↔ b < a) := by
  unfold cI
  split <;> rename_i h1
  · exact ⟨by omega, by omega, by omega⟩
  · split <;> rename_i h2
    · exact ⟨by omega, by omega, by omega⟩
    · omega
theorem cT_cases (a b : List UInt8) : (cT a b = -1 ↔ a < b) ∧ (cT a b = 1 ↔ b < a) := by
  unfold cT
  by_cases h1 : a < b
  · rw [if_pos h1]
    have h2 : ¬ b < a := by grind
    exact ⟨by simp [h1], by simp [h2]⟩
  · rw [if_neg h1]
    by_cases h2 : b < a
    · rw [if_pos h2]; exact ⟨by simp [h1], by simp [h2]⟩
    · rw [if_neg h2]; exact ⟨by simp [h1], by simp [h2]⟩
theorem cI_cases (a b : Int) : (cI a b = -1 ↔ a < b) ∧ (cI a b = 1 ↔ b < a) := by
  unfold cI
  split <;> rename_i h1
  · exact ⟨by omega, by omega⟩
  · split <;> rename_i h2
    · exact ⟨by omega, by omega⟩
    · exact ⟨by omega, by omega⟩
theorem cmpV_good {x y : ValT} (hx : goodV x = true) (hy : goodV y = true) : (cmpV x y = -1 ↔ belowV x y = true) ∧ (cmpV x y = 1 ↔ belowV y x = true) := by
  obtain ⟨k, n, s, _⟩ := x
  obtain ⟨k', n', s', _⟩ := y
  unfold belowV cmpV txt
  simp only [fstE_cons, fstE_nil, decide_eq_true_iff]
  by_cases hk : k = k'
  · subst hk
    simp only [cI_self, ne_eq, not_true_eq_false, ↓reduceIte]
    unfold goodV at hx hy
    rw [decide_eq_true_iff] at hx hy
    simp only at hx hy
    by_cases h1 : k = 1
    · subst h1
      have e : s.data.toList = [] := by rcases hx with h | h | h <;> first | exact h.2 | (exfalso; omega)
      have e' : s'.data.toList = [] := by rcases hy with h | h | h <;> first | exact h.2 | (exfalso; omega)
      rw [e, e', cT_self]
      simp only [↓reduceIte, not_true_eq_false]
      have := cI_cases n n'
      by_cases hn : cI n n' = 0
      · rw [if_neg (by simpa using hn)]
        constructor
        · rw [← this.1, hn]
        · rw [← this.2, hn]
      · rw [if_pos hn]; exact this
    · have e : n = 0 := by rcases hx with h | h | h <;> first | exact h.2.1 | exact absurd h.1 h1
      have e' : n' = 0 := by rcases hy with h | h | h <;> first | exact h.2.1 | exact absurd h.1 h1
      rw [e, e', cI_self]
      simp only [↓reduceIte, not_true_eq_false, h1]
      have := cT_cases s.data.toList s'.data.toList
      by_cases hn : cT s.data.toList s'.data.toList = 0
      · rw [if_neg (by simpa using hn)]
        constructor
        · rw [← this.1, hn]
        · rw [← this.2, hn]
      · rw [if_pos hn]; exact this
  · have h := cI_ne hk
    rw [if_pos h.1, if_pos hk, if_pos (fun e => hk e.symm)]
    exact h.2
theorem cmpV_cases (x y : ValT) : cmpV x y = -1 ∨ cmpV x y = 0 ∨ cmpV x y = 1 := by
  unfold cmpV cI cT
  simp only [fstE_cons, fstE_nil]
  repeat' split
  all_goals first | omega | simp
theorem cmpR_drop (l m : List ValT) (k : Nat) (hl : k < l.length) (hm : k < m.length) : cmpR (l.drop k) (m.drop k) = if cmpV l[k] m[k] ≠ 0 then cmpV l[k] m[k] else cmpR (l.drop (k + 1)) (m.drop (k + 1)) := by
  rw [List.drop_eq_getElem_cons hl, List.drop_eq_getElem_cons hm, cmpR]
theorem cmpR_end (l m : List ValT) (k : Nat) (hl : k ≤ l.length) (hm : k ≤ m.length) (h : k = l.length ∨ k = m.length) : cmpR (l.drop k) (m.drop k) = cI l.length m.length := by
  unfold cI
  rcases h with rfl | rfl
  · rw [List.drop_length]
    by_cases e : l.length = m.length
    · rw [e, List.drop_length, if_neg (by omega), if_neg (by omega)]; rfl
    · rw [List.drop_eq_getElem_cons (by omega), if_pos (by omega)]; rfl
  · rw [List.drop_length]
    by_cases e : l.length = m.length
    · rw [← e, List.drop_length, if_neg (by omega), if_neg (by omega)]; rfl
    · rw [List.drop_eq_getElem_cons (by omega), if_neg (by omega), if_pos (by omega)]; rfl
theorem isNaNT (s : ByteArray) (w : World) : CallP Tryz.prog 98 #[.string s] (fun r w' => r = .bool false ∧ w' = w) w := by
  refine ⟨S98.calls _ _ _ ?_⟩
  unfold S98
  refine bi_sneq ?_
  exact ⟨by rw [decide_eq_false (by simp)], rfl⟩
theorem isNaNI (n : Int) (w : World) : CallP Tryz.prog 134 #[.int .i64 n] (fun r w' => r = .bool false ∧ w' = w) w := by
  refine ⟨S134.calls _ _ _ ?_⟩
  unfold S134
  (repeat with_reducible first|refine z_t (by omega) ?_)
  exact ⟨rfl, rfl⟩
theorem compareT (a b : ByteArray) (w : World) : CallP Tryz.prog 82 #[.string a, .string b] (fun r w' => r = .int .i64 (cT a.data.toList b.data.toList) ∧ w' = w) w := by
  refine ⟨S82.calls _ _ _ _ ?_⟩
  unfold S82
  refine (isNaNT a w).mono ?_
  rintro _ _ ⟨rfl, rfl⟩
  refine (isNaNT b _).mono ?_
  rintro _ w ⟨rfl, rfl⟩
  (repeat with_reducible first|refine z_c ?_)
  rw [tS_of a, tS_of b]
  refine tl_lss ?_
  unfold cT
  refine CondP.dec (fun h => ?_) (fun h => ?_)
  · exact ⟨by rw [if_pos h], rfl⟩
  refine tl_gtr ?_
  refine CondP.dec (fun h1 => ?_) (fun h1 => ?_)
  · exact ⟨by rw [if_neg h, if_pos h1], rfl⟩
  · exact ⟨by rw [if_neg h, if_neg h1], rfl⟩
theorem compareI (a b : Int) (w : World) : CallP Tryz.prog 118 #[.int .i64 a, .int .i64 b] (fun r w' => r = .int .i64 (cI a b) ∧ w' = w) w := by
  refine ⟨S118.calls _ _ _ _ ?_⟩
  unfold S118
  refine (isNaNI a w).mono ?_
  rintro _ _ ⟨rfl, rfl⟩
  refine (isNaNI b _).mono ?_
  rintro _ w ⟨rfl, rfl⟩
  (repeat with_reducible first|refine z_c ?_)
  unfold cI
  refine bi_lss_c (fun h => ?_) (fun h => ?_)
  · (repeat with_reducible first|refine z_b ?_)
    exact ⟨by rw [if_pos h], rfl⟩
  (repeat with_reducible first|refine z_c ?_)
  refine bi_gtr_c (fun h1 => ?_) (fun h1 => ?_)
  · (repeat with_reducible first|refine z_b ?_)
    exact ⟨by rw [if_neg h, if_pos h1], rfl⟩
  · (repeat with_reducible first|refine z_c ?_)
    exact ⟨by rw [if_neg h, if_neg h1], rfl⟩
theorem or_spec (v : Value) (es : List Int) (w : World) (hv : Rd w v (iV es)) : CallP Tryz.prog 117 #[v] (fun r w' => r = .int .i64 (fstE es) ∧ w' = w) w := by
  obtain ⟨A, c, rfl, hc, hm⟩ := hv.slice
  have hlen : (iV es).length = es.length := List.length_map _
  rw [hlen] at hv ⊢
  refine ⟨S117.calls _ _ _ ?_⟩
  unfold S117
  refine ln undIs ?_
  refine LoopP.inv1 (fun iv w' => ∃ k : Nat, k ≤ es.length ∧ iv = .int .i64 k ∧ fstE es = fstE (es.drop k) ∧ w = w') (fun iv _ => es.length - (intOf iv).toNat) ⟨0, by omega, rfl, rfl, rfl⟩ ?_
  rintro _ _ ⟨k, hk, rfl, hno, rfl⟩ J hJ
  dsimp only [List.headD_cons, List.tail_cons]
  refine bi_lss_c (fun h => ?_) (fun h => ?_)
  · have hk' : k < es.length := by omega
    obtain ⟨a, rfl, hca⟩ := Rd.atI hv k hk'
    rw [List.drop_eq_getElem_cons hk', fstE_cons] at hno
    (repeat with_reducible first|refine z_b ?_)
    refine ix1 undIs szI hk' ?_
    refine ld oneI hca ?_
    refine bi_neq_c (fun h1 => ?_) (fun h1 => ?_)
    · (repeat with_reducible first|refine z_b ?_)
      exact ⟨by rw [hno, if_pos h1], rfl⟩
    · (repeat with_reducible first|refine z_c ?_|refine z_o (by omega) ?_)
      exact hJ _ _ ⟨k + 1, by omega, by simp, by rw [hno, if_neg (fun e => e h1)], rfl⟩ (by simp [intOf]; omega)
  · (repeat with_reducible first|refine z_c ?_)
    exact ⟨by rw [hno, List.drop_eq_nil_of_le (by omega)]; rfl, rfl⟩
theorem bI3 (w : World) (a b c : Int) : (Instr.buildSlice 24 3 #[(0, .int .i64 a), (1, .int .i64 b), (2, .int .i64 c)]).run Tryz.prog w = .ok (.slice (some ⟨w.heap.size, 0, none⟩) 3 3) (w.alloc (.cells #[.int .i64 a, .int .i64 b, .int .i64 c] 3)) := by kernel_rfl
theorem cmp1_spec (x y : ValT) (w : World) : CallP Tryz.prog 116 #[.agg (valF x).toArray, .agg (valF y).toArray] (fun r w' => r = .int .i64 (cmpV x y) ∧ Below w.heap.size w w') w := by
  refine ⟨S116.calls _ _ _ _ ?_⟩
  unfold S116
  refine bxB ?_
  intro g w1 hg hB1 hb1
  refine bxB ?_
  intro g' w2 hg' hB' hb2
  have hB := hB1.below' hb2
  have hb12 := below_then hb1 hb2
  have p0 : ∀ w', Below w2.heap.size w2 w' → w'.cell? ⟨g, 0, none⟩ = some (.int .i64 x.1) := fun w' h => vc0 (hB.below' h)
  have p1 : ∀ w', Below w2.heap.size w2 w' → w'.cell? ⟨g, 1, none⟩ = some (.int .i64 x.2.1) := fun w' h => vc1 (hB.below' h)
  have p2 : ∀ w', Below w2.heap.size w2 w' → w'.cell? ⟨g, 2, none⟩ = some (.string x.2.2.1) := fun w' h => vc2 (hB.below' h)
  have q0 : ∀ w', Below w2.heap.size w2 w' → w'.cell? ⟨g', 0, none⟩ = some (.int .i64 y.1) := fun w' h => vc0 (hB'.below' h)
  have q1 : ∀ w', Below w2.heap.size w2 w' → w'.cell? ⟨g', 1, none⟩ = some (.int .i64 y.2.1) := fun w' h => vc1 (hB'.below' h)
  have q2 : ∀ w', Below w2.heap.size w2 w' → w'.cell? ⟨g', 2, none⟩ = some (.string y.2.2.1) := fun w' h => vc2 (hB'.below' h)
  have hdr : Below w2.heap.size w2 w2.drew := (Below.refl _ _).drew
  refine draw (Below w2.heap.size w2) hdr ?_
  generalize w2.drew = w3 at *
  (repeat with_reducible first|refine yfd v0 (by decide) ?_|refine yl1 one3 p0 ?_|refine yl1 one3 q0 ?_|refine yfd v1 (by decide) ?_|refine yl1 one3 p1 ?_|refine yl1 one3 q1 ?_|refine yfd v2 (by decide) ?_|refine yl1 one9 p2 ?_|refine yl1 one9 q2 ?_)
  refine act ?_
  refine (compareI _ _ w3).mono ?_
  rintro _ w3 ⟨rfl, rfl⟩
  refine ⟨_, hdr, fun _ h => h, ?_⟩
  refine act ?_
  refine (compareI _ _ w3).mono ?_
  rintro _ w3 ⟨rfl, rfl⟩
  refine ⟨_, hdr, fun _ h => h, ?_⟩
  refine act ?_
  refine (compareT _ _ w3).mono ?_
  rintro _ w3 ⟨rfl, rfl⟩
  refine ⟨_, hdr, fun _ h => h, ?_⟩
  refine act ?_
  refine bsO (xs := iV [cI x.1 y.1, cI x.2.1 y.2.1, cT (txt x) (txt y)]) (bI3 w3 _ _ _) rfl (by decide) ?_
  intro v4 w4 ho4 _ hb4
  have hb5 := below_then hdr hb4
  refine ⟨_, hb5, fun _ h => h, ?_⟩
  refine act ?_
  refine (or_spec v4 _ w4 ho4.rd).mono ?_
  rintro _ w4 ⟨rfl, rfl⟩
  refine ⟨_, hb5, fun _ h => h, ?_⟩
  exact ⟨rfl, below_then hb12 hb5⟩
theorem cmp1_call : callable Tryz.prog 116 = true := by kernel_rfl
theorem compareF (v v' : Value) (l m : List ValT) (w : World) (hv : Vals w [v] l) (hv' : Vals w [v'] m) :
    CallP Tryz.prog 115 #[v, v', .func (.func 116) #[] #[]] (fun r w' => r = .int .i64 (cmpR l m) ∧ Below w.heap.size w w') w := by
  obtain ⟨A, c, rfl, hc, hm⟩ := hv.slice
  obtain ⟨A', c', rfl, hc', hm'⟩ := hv'.slice
  refine ⟨S115.calls _ _ _ _ _ ?_⟩
  unfold S115
  refine ln undVs ?_
  refine LoopP.inv1 (fun iv w' => ∃ k : Nat, k ≤ l.length ∧ k ≤ m.length ∧ iv = .int .i64 k ∧ cmpR l m = cmpR (l.drop k) (m.drop k) ∧ Below w.heap.size w w') (fun iv _ => l.length - (intOf iv).toNat) ⟨0, by omega, by omega, rfl, rfl, Below.refl _ _⟩ ?_
  rintro _ w1 ⟨k, hk, hk2, rfl, hno, hb1⟩ J hJ
  dsimp only [List.headD_cons, List.tail_cons]
  refine bi_lss_c (fun h => ?_) (fun h => ?_)
  · have hk' : k < l.length := by omega
    obtain ⟨a, us, rfl, hus, hcell, hrd⟩ := rRow.at (keeps_Vals _ _ _ _ hb1 hv) k hk'
    obtain ⟨rfl, _⟩ := val_cells hrd
    (repeat with_reducible first|refine z_b ?_)
    refine ixN undVs szVal k hk' ?_
    refine ldR aggVal hcell (by rw [szVal]; rfl) ?_
    refine cpB zVal (by rw [szVal]; rfl) (by rfl) (valF_all l[k]) ?_
    intro g w2 hg hB hb2
    have hb12 := below_then hb1 hb2
    refine ln undVs ?_
    refine bi_geq_c (fun h1 => ?_) (fun h1 => ?_)
    · (repeat with_reducible first|refine z_b ?_)
      refine ⟨?_, hb12⟩
      rw [hno, cmpR_end _ _ _ hk hk2 (.inr (by omega))]
      unfold cI
      rw [if_neg (by omega), if_pos (by omega)]
    have hkm : k < m.length := by omega
    obtain ⟨a', us', rfl, hus', hcell', hrd'⟩ := rRow.at (keeps_Vals _ _ _ _ hb12 hv') k hkm
    obtain ⟨rfl, _⟩ := val_cells hrd'
    (repeat with_reducible first|refine z_c ?_)
    refine ixN undVs szVal k hkm ?_
    refine ldR aggVal hcell' (by rw [szVal]; rfl) ?_
    refine cpB zVal (by rw [szVal]; rfl) (by rfl) (valF_all m[k]) ?_
    intro g' w3 hg' hB' hb3
    refine ldA aggVal (hB.below' hb3) (by rw [szVal]; rfl) ?_
    refine ldA aggVal hB' (by rw [szVal]; rfl) ?_
    refine cvl cmp1_call ?_
    refine (cmp1_spec l[k] m[k] w3).mono ?_
    rintro _ w4 ⟨rfl, hb4⟩
    have hb := below_then (below_then hb12 hb3) hb4
    rw [cmpR_drop l m k hk' hkm] at hno
    refine bi_neq_c (fun h2 => ?_) (fun h2 => ?_)
    · (repeat with_reducible first|refine z_b ?_)
      exact ⟨by rw [hno, if_pos h2], hb⟩
    · (repeat with_reducible first|refine z_c ?_|refine z_o (by omega) ?_)
      exact hJ _ _ ⟨k + 1, by omega, by omega, by simp, by rw [hno, if_neg (fun e => e h2)], hb⟩ (by simp [intOf]; omega)
  · have hkl : k = l.length := by omega
    have := cmpR_end l m k hk hk2 (.inl hkl)
    (repeat with_reducible first|refine z_c ?_)
    refine ln undVs ?_
    refine ln undVs ?_
    unfold cI at this
    refine bi_lss_c (fun h1 => ?_) (fun h1 => ?_)
    · (repeat with_reducible first|refine z_b ?_)
      exact ⟨by rw [hno, this, if_pos h1], hb1⟩
    · (repeat with_reducible first|refine z_c ?_)
      exact ⟨by rw [hno, this, if_neg h1, if_neg (by omega)], hb1⟩
theorem Compare93 (v v' : Value) (l m : List ValT) (w : World) (hv : Vals w [v] l) (hv' : Vals w [v'] m) :
    CallP Tryz.prog 93 #[v, v'] (fun r w' => r = .int .i64 (compV l m) ∧ Below w.heap.size w w') w := by
  refine ⟨S93.calls _ _ _ _ ?_⟩
  unfold S93
  refine (row_spec _ l w hv).mono ?_
  rintro _ w1 ⟨rfl, hb1⟩
  refine bi_neq_c (fun h0 => ?_) (fun h0 => ?_)
  · (repeat with_reducible first|refine z_b ?_|refine z_f ?_|refine z_k ?_)
    exact ⟨by unfold compV; rw [if_pos (.inl h0)], hb1⟩
  (repeat with_reducible first|refine z_d ?_)
  refine (row_spec _ m w1 (keeps_Vals _ _ _ _ hb1 hv')).mono ?_
  rintro _ w2 ⟨rfl, hb2⟩
  have hb12 := below_then hb1 hb2
  (repeat with_reducible first|refine z_d ?_)
  refine bi_neq_c (fun h1 => ?_) (fun h1 => ?_)
  · (repeat with_reducible first|refine z_b ?_|refine z_l ?_)
    exact ⟨by unfold compV; rw [if_pos (.inr h1)], hb12⟩
  (repeat with_reducible first|refine z_c ?_|refine z_l ?_)
  refine (compareF _ _ l m w2 (keeps_Vals _ _ _ _ hb12 hv) (keeps_Vals _ _ _ _ hb12 hv')).mono ?_
  rintro _ w3 ⟨rfl, hb3⟩
  exact ⟨by unfold compV; rw [if_neg (by omega)], below_then hb12 hb3⟩
end Go.Proofs.YtonblppkidpmlaaGreatDoor.E
namespace Go.Proofs.YtonblppkidpmlaaGreatDoor.E
open Go Go.RowKit
set_option linter.unusedSimpArgs false
set_option linter.unusedVariables false

theorem Below75 (x y : ValT) (w : World) : CallP Tryz.prog 75 #[.agg (valF x).toArray, .agg (valF y).toArray] (fun r w' => r = .bool (belowV x y) ∧ Below w.heap.size w w') w := by
  refine ⟨S75.calls _ _ _ _ ?_⟩
  unfold S75
  refine bxB ?_
  intro g w1 hg hB1 hb1
  refine bxB ?_
  intro g' w2 hg' hB' hb2
  have hB := hB1.below' hb2
  have hb12 := below_then hb1 hb2
  unfold belowV txt
  (repeat with_reducible first|refine fd v0 (by decide) ?_|refine ld one3 (vc0 hB) ?_|refine ld one3 (vc0 hB') ?_)
  refine bi_neq_c (fun h0 => ?_) (fun h0 => ?_)
  · (repeat with_reducible first|refine fd v0 (by decide) ?_|refine ld one3 (vc0 hB) ?_|refine ld one3 (vc0 hB') ?_|refine z_b ?_)
    refine bi_lss ?_
    exact ⟨by simp only [if_pos h0], hb12⟩
  · (repeat with_reducible first|refine fd v0 (by decide) ?_|refine ld one3 (vc0 hB) ?_|refine z_c ?_)
    refine bi_eql_c (fun h1 => ?_) (fun h1 => ?_)
    · (repeat with_reducible first|refine fd v1 (by decide) ?_|refine ld one3 (vc1 hB) ?_|refine ld one3 (vc1 hB') ?_|refine z_b ?_)
      refine bi_lss ?_
      exact ⟨by simp only [if_neg (show ¬ x.1 ≠ y.1 from fun e => e h0), if_pos h1], hb12⟩
    · (repeat with_reducible first|refine fd v2 (by decide) ?_|refine ld one9 (vc2 hB) ?_|refine ld one9 (vc2 hB') ?_|refine z_c ?_)
      rw [tS_of x.2.2.1, tS_of y.2.2.1]
      refine tl_lss ?_
      exact ⟨by simp only [if_neg (show ¬ x.1 ≠ y.1 from fun e => e h0), if_neg h1], hb12⟩
theorem Compare51 (v v' : Value) (l m : List ValT) (w : World) (hv : Vals w [v] l) (hv' : Vals w [v'] m) :
    CallP Tryz.prog 51 #[v, v'] (fun r w' => r = .int .i64 (compV l m) ∧ Below w.heap.size w w') w := by
  obtain ⟨A, c, rfl, hc, hm⟩ := hv.slice
  obtain ⟨A', c', rfl, hc', hm'⟩ := hv'.slice
  refine ⟨S51.calls _ _ _ _ ?_⟩
  unfold S51
  refine (refRow_spec _ l w hv).mono ?_
  rintro _ w1 ⟨rfl, hb1⟩
  refine bi_neq_c (fun h0 => ?_) (fun h0 => ?_)
  · (repeat with_reducible first|refine z_b ?_|refine z_f ?_|refine z_k ?_)
    exact ⟨by unfold compV; rw [if_pos (.inl h0)], hb1⟩
  (repeat with_reducible first|refine z_d ?_)
  refine (refRow_spec _ m w1 (keeps_Vals _ _ _ _ hb1 hv')).mono ?_
  rintro _ w2 ⟨rfl, hb2⟩
  have hb12 := below_then hb1 hb2
  (repeat with_reducible first|refine z_d ?_)
  refine bi_neq_c (fun h1 => ?_) (fun h1 => ?_)
  · (repeat with_reducible first|refine z_b ?_|refine z_l ?_)
    exact ⟨by unfold compV; rw [if_pos (.inr h1)], hb12⟩
  (repeat with_reducible first|refine z_c ?_|refine z_l ?_)
  have hgl := (rowE_0.1 h0).2
  have hgm := (rowE_0.1 h1).2
  rw [List.all_eq_true] at hgl hgm
  have hcv : compV l m = cmpR l m := by unfold compV; rw [if_neg (by omega)]
  rw [hcv]
  refine LoopP.inv1 (fun iv w' => ∃ k : Nat, k ≤ l.length ∧ k ≤ m.length ∧ iv = .int .i64 k ∧ cmpR l m = cmpR (l.drop k) (m.drop k) ∧ Below w.heap.size w w') (fun iv _ => l.length - (intOf iv).toNat) ⟨0, by omega, by omega, rfl, rfl, hb12⟩ ?_
  rintro _ w3 ⟨k, hk, hk2, rfl, hno, hb3⟩ J hJ
  dsimp only [List.headD_cons, List.tail_cons]
  have fin : ∀ {R : Value → World → Prop} {w' : World}, (k = l.length ∨ k = m.length) → (R (.int .i64 (cmpR l m)) w') → True := fun _ _ => trivial
  refine ln undVs ?_
  refine bi_lss_c (fun h => ?_) (fun h => ?_)
  all_goals (try (have hk' : k < l.length := by omega))
  all_goals (repeat with_reducible first|refine z_c ?_|refine z_d ?_|refine z_e ?_|refine z_l ?_)
  · refine ln undVs ?_
    (repeat with_reducible first|refine z_d ?_)
    refine bi_lss_c (fun h2 => ?_) (fun h2 => ?_)
    · have hkm : k < m.length := by omega
      have hdr : Below w3.heap.size w3 w3.drew := (Below.refl _ _).drew
      obtain ⟨a, us, rfl, hus, hcell, hrd⟩ := rRow.at (keeps_Vals _ _ _ _ hb3 hv) k hk'
      obtain ⟨rfl, _⟩ := val_cells hrd
      obtain ⟨a', us', rfl, hus', hcell', hrd'⟩ := rRow.at (keeps_Vals _ _ _ _ hb3 hv') k hkm
      obtain ⟨rfl, _⟩ := val_cells hrd'
      have kc : ∀ w', Below w3.heap.size w3 w' → ∀ j u, (valF l[k])[j]? = some u → w'.cell? ((a.add (k * 3)).add j) = some u := fun w' hb j u hu => by
        have := hcell j u hu
        rw [hb.cell (World.block_lt_of_cell? _ _ this)]; exact this
      have kc' : ∀ w', Below w3.heap.size w3 w' → ∀ j u, (valF m[k])[j]? = some u → w'.cell? ((a'.add (k * 3)).add j) = some u := fun w' hb j u hu => by
        have := hcell' j u hu
        rw [hb.cell (World.block_lt_of_cell? _ _ this)]; exact this
      have hg1 := hgl _ (List.getElem_mem hk')
      have hg2 := hgm _ (List.getElem_mem hkm)
      have hgood := cmpV_good hg1 hg2
      have hcas := cmpV_cases l[k] m[k]
      rw [cmpR_drop l m k hk' hkm] at hno
      (repeat with_reducible first|refine z_b ?_|refine z_k ?_)
      refine draw (Below w3.heap.size w3) hdr ?_
      refine yixA undVs szVal k hk' ?_
      refine yldR aggVal kc (by rw [szVal]; rfl) ?_
      refine yixA undVs szVal k hkm ?_
      refine yldR aggVal kc' (by rw [szVal]; rfl) ?_
      refine (Below75 l[k] m[k] _).mono ?_
      rintro _ w4 ⟨rfl, hb4⟩
      have hb34 := below_then hdr hb4
      have hb04 := below_then hb3 hb34
      refine CondP.ofb (fun h3 => ?_) (fun h3 => ?_)
      · have e := hgood.1.2 h3
        exact ⟨by rw [hno, if_pos (by rw [e]; omega), e], hb04⟩
      have hdr4 : Below w4.heap.size w4 w4.drew := (Below.refl _ _).drew
      have hb5 := below_then hb34 hdr4
      refine draw (Below w3.heap.size w3) hb5 ?_
      refine yixA undVs szVal k hkm ?_
      refine yldR aggVal kc' (by rw [szVal]; rfl) ?_
      refine yixA undVs szVal k hk' ?_
      refine yldR aggVal kc (by rw [szVal]; rfl) ?_
      refine (Below75 m[k] l[k] _).mono ?_
      rintro _ w6 ⟨rfl, hb6⟩
      have hb06 := below_then hb3 (below_then hb5 hb6)
      refine CondP.ofb (fun h4 => ?_) (fun h4 => ?_)
      · have e := hgood.2.2 h4
        exact ⟨by rw [hno, if_pos (by rw [e]; omega), e], hb06⟩
      · have e : cmpV l[k] m[k] = 0 := by
          rcases hcas with e | e | e
          · rw [hgood.1.1 e] at h3; cases h3
          · exact e
          · rw [hgood.2.1 e] at h4; cases h4
        (repeat with_reducible first|refine z_o (by omega) ?_)
        exact hJ _ _ ⟨k + 1, by omega, by omega, by simp, by rw [hno, if_neg (fun h => h e)], hb06⟩ (by simp [intOf]; omega)
    · have hend := cmpR_end l m k hk hk2 (.inr (by omega))
      (repeat with_reducible first|refine z_c ?_|refine z_k ?_)
      refine ln undVs ?_
      refine ln undVs ?_
      unfold cI at hend
      refine bi_lss_c (fun h3 => ?_) (fun h3 => ?_)
      · (repeat with_reducible first|refine z_b ?_)
        exact ⟨by rw [hno, hend, if_pos h3], hb3⟩
      (repeat with_reducible first|refine z_c ?_)
      refine ln undVs ?_
      refine ln undVs ?_
      refine bi_gtr_c (fun h4 => ?_) (fun h4 => ?_)
      · (repeat with_reducible first|refine z_b ?_)
        exact ⟨by rw [hno, hend, if_neg h3, if_pos h4], hb3⟩
      · (repeat with_reducible first|refine z_c ?_)
        exact ⟨by rw [hno, hend, if_neg h3, if_neg h4], hb3⟩
  · have hend := cmpR_end l m k hk hk2 (.inl (by omega))
    refine ln undVs ?_
    refine ln undVs ?_
    unfold cI at hend
    refine bi_lss_c (fun h3 => ?_) (fun h3 => ?_)
    · (repeat with_reducible first|refine z_b ?_)
      exact ⟨by rw [hno, hend, if_pos h3], hb3⟩
    (repeat with_reducible first|refine z_c ?_)
    refine ln undVs ?_
    refine ln undVs ?_
    refine bi_gtr_c (fun h4 => ?_) (fun h4 => ?_)
    · (repeat with_reducible first|refine z_b ?_)
      exact ⟨by rw [hno, hend, if_neg h3, if_pos h4], hb3⟩
    · (repeat with_reducible first|refine z_c ?_)
      exact ⟨by rw [hno, hend, if_neg h3, if_neg h4], hb3⟩
theorem rRow.cutTo {α : Type} {s : Nat} {r : Rdr α} {w : World} {A : Option Addr} {n c : Nat} {l : List α} (h : rRow s r w [.slice A n c] l) (k : Nat) (hk : k ≤ l.length) : rRow s r w [sliced A 0 k c s] (l.take k) := by
  obtain ⟨A', c', he, hc, hm, h3⟩ := h
  simp only [List.cons.injEq, Value.slice.injEq, and_true] at he
  obtain ⟨rfl, rfl, rfl⟩ := he
  have hl : (l.take k).length = k := by rw [List.length_take]; omega
  refine ⟨if 0 = c then A else A.map fun a => a.add (0 * s), c, ?_, by rw [hl]; omega, hm, fun i x hx => ?_⟩
  · rw [hl]; simp [sliced, eq_comm]
  have hi : i < k := by
    have := (List.getElem?_eq_some_iff.1 hx).1
    omega
  rw [List.getElem?_take, if_pos hi] at hx
  obtain ⟨a, us, rfl, hus, hcell, hr⟩ := h3 i x hx
  refine ⟨a, us, ?_, hus, hcell, hr⟩
  split <;> simp [Addr.add]
section
variable {P : Program} {K : Value → World → Prop} {w : World}
/-- x[:k] of a row that is read. -/
theorem ctTo {α : Type} {s : Nat} {r : Rdr α} {t e : TypeId} (ht : P.underlying t = some (.slice e)) (hs : (P.info? e).map (·.size) = some s) {A : Option Addr} {n c k : Nat} {kd : IntKind} {l : List α} (hr : rRow s r w [.slice A n c] l) (hk : k ≤ l.length) {i : Int} (hi : i = (k : Int))
    (kk : ∀ v', rRow s r w [v'] (l.take k) → K v' w) : LiftP P (Instr.sliceAt t (.slice A n c) none (some (.int kd i)) none) K w := by
  subst hi
  have hr' := hr
  obtain ⟨A', c', he, hc, _, _⟩ := hr'
  simp only [List.cons.injEq, Value.slice.injEq, and_true] at he
  obtain ⟨rfl, rfl, rfl⟩ := he
  exact ofPR (pr_cut ht hs .no (.at kd k) .no (Nat.zero_le _) (by simp) (by omega) (Nat.le_refl _) (.inl rfl)) (kk _ (hr.cutTo k hk))
end
end Go.Proofs.YtonblppkidpmlaaGreatDoor.E
