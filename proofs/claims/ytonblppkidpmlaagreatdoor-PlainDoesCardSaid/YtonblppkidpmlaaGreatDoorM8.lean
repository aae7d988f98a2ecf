import Derived.Test.YtonblppkidpmlaaGreatDoorM7
namespace Go.Proofs.YtonblppkidpmlaaGreatDoor.E
open Go Go.RowKit
set_option linter.unusedSimpArgs false
set_option linter.unusedVariables false

/-- A predicate that the program tells of values. -/
def Tells (f : FuncId) (p : ValT → Bool) : Prop := callable Tryz.prog f = true ∧ ∀ (x : ValT) (w : World), CallP Tryz.prog f #[.agg (valF x).toArray] (fun r w' => r = .bool (p x) ∧ Below w.heap.size w w') w
theorem bad_tells : Tells 84 (fun x => !goodV x) := by
  refine ⟨by kernel_rfl, fun x w => ⟨S84.calls _ _ _ ?_⟩⟩
  unfold S84
  refine bxB ?_
  intro g w1 hg hB hb
  refine ldA aggVal hB (by exact szVal) ?_
  refine (good_spec x w1).mono ?_
  rintro _ w2 ⟨rfl, hb2⟩
  refine bi_not ?_
  exact ⟨rfl, below_then hb hb2⟩
theorem bad1_tells : Tells 101 (fun x => !goodV x) := by
  refine ⟨by kernel_rfl, fun x w => ⟨S101.calls _ _ _ ?_⟩⟩
  unfold S101
  refine bxB ?_
  intro g w1 hg hB hb
  refine ldA aggVal hB (by exact szVal) ?_
  refine (good_spec x w1).mono ?_
  rintro _ w2 ⟨rfl, hb2⟩
  refine bi_not ?_
  exact ⟨rfl, below_then hb hb2⟩
theorem null_tells : Tells 95 (fun x => decide (x.1 = 0)) := by
  refine ⟨by kernel_rfl, fun x w => ⟨S95.calls _ _ _ ?_⟩⟩
  unfold S95
  refine bxB ?_
  intro g w1 hg hB hb
  (repeat with_reducible first|refine fd v0 (by decide) ?_|refine ld one3 (vc0 hB) ?_)
  refine bi_eql ?_
  exact ⟨rfl, hb⟩
theorem any_take {α : Type} (p : α → Bool) (l : List α) (k : Nat) (hk : k < l.length) : (l.take (k + 1)).any p = ((l.take k).any p || p l[k]) := by
  rw [List.take_succ_eq_append_getElem hk, List.any_append]; simp
theorem indexR {f : FuncId} {p : ValT → Bool} (hf : Tells f p) (v : Value) (l : List ValT) (w : World) (hv : Vals w [v] l) :
    CallP Tryz.prog 99 #[v, .func (.func f) #[] #[]] (fun r w' => (∃ i : Int, r = .int .i64 i ∧ (0 ≤ i ↔ l.any p = true)) ∧ Below w.heap.size w w') w := by
  obtain ⟨A, c, rfl, hc, hm⟩ := hv.slice
  refine ⟨S99.calls _ _ _ _ ?_⟩
  unfold S99
  refine ln undRec ?_
  refine LoopP.inv1 (fun iv w' => ∃ k : Nat, k ≤ l.length ∧ iv = .int .i64 k ∧ (l.take k).any p = false ∧ Below w.heap.size w w') (fun iv _ => l.length - (intOf iv).toNat) ⟨0, by omega, rfl, by simp, Below.refl _ _⟩ ?_
  rintro _ w1 ⟨k, hk, rfl, hany, hb1⟩ J hJ
  dsimp only [List.headD_cons, List.tail_cons]
  refine bi_lss_c (fun h => ?_) (fun h => ?_)
  · have hk' : k < l.length := by omega
    obtain ⟨a, us, rfl, hus, hcell, hrd⟩ := rRow.at (keeps_Vals _ _ _ _ hb1 hv) k hk'
    obtain ⟨rfl, _⟩ := val_cells hrd
    (repeat with_reducible first|refine z_b ?_)
    refine ixN undRec szVal k hk' ?_
    refine ldR aggVal hcell (by rw [szVal]; rfl) ?_
    refine cvl hf.1 ?_
    refine (hf.2 l[k] w1).mono ?_
    rintro _ w2 ⟨rfl, hb2⟩
    have e := any_take p l k hk'
    cases hp : p l[k] with
    | true =>
      (repeat with_reducible first|refine z_b ?_)
      refine ⟨⟨k, rfl, ?_⟩, below_then hb1 hb2⟩
      have : l.any p = true := List.any_eq_true.2 ⟨l[k], List.getElem_mem hk', hp⟩
      rw [this]; simp
    | false =>
      (repeat with_reducible first|refine z_c ?_|refine z_o (by omega) ?_)
      refine hJ _ _ ⟨k + 1, by omega, by simp, by rw [e, hany, hp]; rfl, below_then hb1 hb2⟩ (by simp [intOf]; omega)
  · have hkl : k = l.length := by omega
    subst hkl
    rw [List.take_length] at hany
    (repeat with_reducible first|refine z_c ?_)
    exact ⟨⟨-1, rfl, by rw [hany]; simp⟩, hb1⟩
theorem containsR {f : FuncId} {p : ValT → Bool} (hf : Tells f p) (v : Value) (l : List ValT) (w : World) (hv : Vals w [v] l) :
    CallP Tryz.prog 83 #[v, .func (.func f) #[] #[]] (fun r w' => r = .bool (l.any p) ∧ Below w.heap.size w w') w := by
  refine ⟨S83.calls _ _ _ _ ?_⟩
  unfold S83
  refine (indexR hf v l w hv).mono ?_
  rintro _ w1 ⟨⟨i, rfl, hi⟩, hb⟩
  refine bi_geq ?_
  refine ⟨?_, hb⟩
  congr 1
  cases h : l.any p with
  | true => rw [h] at hi; exact decide_eq_true (hi.2 rfl)
  | false => rw [h] at hi; exact decide_eq_false fun e => by simpa using hi.1 e
theorem indexV {f : FuncId} {p : ValT → Bool} (hf : Tells f p) (v : Value) (l : List ValT) (w : World) (hv : Vals w [v] l) :
    CallP Tryz.prog 119 #[v, .func (.func f) #[] #[]] (fun r w' => (∃ i : Int, r = .int .i64 i ∧ (0 ≤ i ↔ l.any p = true)) ∧ Below w.heap.size w w') w := by
  obtain ⟨A, c, rfl, hc, hm⟩ := hv.slice
  refine ⟨S119.calls _ _ _ _ ?_⟩
  unfold S119
  refine ln undVs ?_
  refine LoopP.inv1 (fun iv w' => ∃ k : Nat, k ≤ l.length ∧ iv = .int .i64 k ∧ (l.take k).any p = false ∧ Below w.heap.size w w') (fun iv _ => l.length - (intOf iv).toNat) ⟨0, by omega, rfl, by simp, Below.refl _ _⟩ ?_
  rintro _ w1 ⟨k, hk, rfl, hany, hb1⟩ J hJ
  dsimp only [List.headD_cons, List.tail_cons]
  refine bi_lss_c (fun h => ?_) (fun h => ?_)
  · have hk' : k < l.length := by omega
    obtain ⟨a, us, rfl, hus, hcell, hrd⟩ := rRow.at (keeps_Vals _ _ _ _ hb1 hv) k hk'
    obtain ⟨rfl, _⟩ := val_cells hrd
    (repeat with_reducible first|refine z_b ?_)
    refine ixN undVs szVal k hk' ?_
    refine ldR aggVal hcell (by rw [szVal]; rfl) ?_
    refine cvl hf.1 ?_
    refine (hf.2 l[k] w1).mono ?_
    rintro _ w2 ⟨rfl, hb2⟩
    have e := any_take p l k hk'
    cases hp : p l[k] with
    | true =>
      (repeat with_reducible first|refine z_b ?_)
      refine ⟨⟨k, rfl, ?_⟩, below_then hb1 hb2⟩
      have : l.any p = true := List.any_eq_true.2 ⟨l[k], List.getElem_mem hk', hp⟩
      rw [this]; simp
    | false =>
      (repeat with_reducible first|refine z_c ?_|refine z_o (by omega) ?_)
      refine hJ _ _ ⟨k + 1, by omega, by simp, by rw [e, hany, hp]; rfl, below_then hb1 hb2⟩ (by simp [intOf]; omega)
  · have hkl : k = l.length := by omega
    subst hkl
    rw [List.take_length] at hany
    (repeat with_reducible first|refine z_c ?_)
    exact ⟨⟨-1, rfl, by rw [hany]; simp⟩, hb1⟩
theorem containsV {f : FuncId} {p : ValT → Bool} (hf : Tells f p) (v : Value) (l : List ValT) (w : World) (hv : Vals w [v] l) :
    CallP Tryz.prog 94 #[v, .func (.func f) #[] #[]] (fun r w' => r = .bool (l.any p) ∧ Below w.heap.size w w') w := by
  refine ⟨S94.calls _ _ _ _ ?_⟩
  unfold S94
  refine (indexV hf v l w hv).mono ?_
  rintro _ w1 ⟨⟨i, rfl, hi⟩, hb⟩
  refine bi_geq ?_
  refine ⟨?_, hb⟩
  congr 1
  cases h : l.any p with
  | true => rw [h] at hi; exact decide_eq_true (hi.2 rfl)
  | false => rw [h] at hi; exact decide_eq_false fun e => by simpa using hi.1 e
theorem any_bad (l : List ValT) : l.any (fun x => !goodV x) = !(l.all goodV) := by
  induction l with
  | nil => rfl
  | cons x r ih => rw [List.any_cons, List.all_cons, ih, Bool.not_and]
theorem row_spec (v : Value) (l : List ValT) (w : World) (hv : Vals w [v] l) : CallP Tryz.prog 85 #[v] (fun r w' => r = .int .i64 (rowE l) ∧ Below w.heap.size w w') w := by
  obtain ⟨A, c, rfl, hc, hm⟩ := hv.slice
  refine ⟨S85.calls _ _ _ ?_⟩
  unfold S85
  refine ln undVs ?_
  refine bi_gtr_c (fun h => ?_) (fun h => ?_)
  · (repeat with_reducible first|refine z_b ?_)
    exact ⟨by unfold rowE; rw [if_pos (by omega)], Below.refl _ _⟩
  · (repeat with_reducible first|refine z_c ?_)
    refine (containsV bad1_tells _ l w hv).mono ?_
    rintro _ w1 ⟨rfl, hb⟩
    rw [any_bad]
    have e : rowE l = if l.all goodV then 0 else 1 := by unfold rowE; rw [if_neg (by omega)]
    rw [e]
    cases l.all goodV with
    | true =>
      refine CondP.no_ rfl ?_
      exact ⟨rfl, hb⟩
    | false =>
      refine CondP.yes rfl ?_
      exact ⟨rfl, hb⟩
theorem refRow_spec (v : Value) (l : List ValT) (w : World) (hv : Vals w [v] l) : CallP Tryz.prog 43 #[v] (fun r w' => r = .int .i64 (rowE l) ∧ Below w.heap.size w w') w := by
  obtain ⟨A, c, rfl, hc, hm⟩ := hv.slice
  refine ⟨S43.calls _ _ _ ?_⟩
  unfold S43
  refine ln undVs ?_
  refine bi_gtr_c (fun h => ?_) (fun h => ?_)
  · (repeat with_reducible first|refine z_b ?_)
    exact ⟨by unfold rowE; rw [if_pos (by omega)], Below.refl _ _⟩
  have e : rowE l = if l.all goodV then 0 else 1 := by unfold rowE; rw [if_neg (by omega)]
  rw [e]
  (repeat with_reducible first|refine z_c ?_)
  refine LoopP.inv1 (fun iv w' => ∃ k : Nat, k ≤ l.length ∧ iv = .int .i64 k ∧ (l.take k).all goodV = true ∧ Below w.heap.size w w') (fun iv _ => l.length - (intOf iv).toNat) ⟨0, by omega, rfl, by simp, Below.refl _ _⟩ ?_
  rintro _ w1 ⟨k, hk, rfl, hall, hb1⟩ J hJ
  dsimp only [List.headD_cons, List.tail_cons]
  refine ln undVs ?_
  refine bi_lss_c (fun h => ?_) (fun h => ?_)
  · have hk' : k < l.length := by omega
    obtain ⟨a, us, rfl, hus, hcell, hrd⟩ := rRow.at (keeps_Vals _ _ _ _ hb1 hv) k hk'
    obtain ⟨rfl, _⟩ := val_cells hrd
    (repeat with_reducible first|refine z_b ?_)
    refine ixN undVs szVal k hk' ?_
    refine ldR aggVal hcell (by rw [szVal]; rfl) ?_
    refine (refGood_spec l[k] w1).mono ?_
    rintro _ w2 ⟨rfl, hb2⟩
    cases hp : goodV l[k] with
    | true =>
      (repeat with_reducible first|refine z_c ?_|refine z_o (by omega) ?_|refine z_E ?_)
      refine hJ _ _ ⟨k + 1, by omega, by simp, ?_, below_then hb1 hb2⟩ (by simp [intOf]; omega)
      rw [List.take_succ_eq_append_getElem hk', List.all_append, hall]
      simp [hp]
    | false =>
      (repeat with_reducible first|refine z_b ?_|refine z_F ?_)
      refine ⟨?_, below_then hb1 hb2⟩
      have : l.all goodV = false := List.all_eq_false.2 ⟨l[k], List.getElem_mem hk', by rw [hp]; simp⟩
      rw [this]; rfl
  · have hkl : k = l.length := by omega
    subst hkl
    rw [List.take_length] at hall
    (repeat with_reducible first|refine z_c ?_)
    exact ⟨by rw [hall]; rfl, hb1⟩
theorem when_spec (b : Bool) (e : Int) (w : World) : CallP Tryz.prog 66 #[.bool b, .int .i64 e] (fun r w' => r = .int .i64 (if b then e else 0) ∧ w' = w) w := by
  refine ⟨S66.calls _ _ _ _ ?_⟩
  unfold S66
  cases b with
  | true => exact CondP.yes rfl ⟨rfl, rfl⟩
  | false => exact CondP.no_ rfl ⟨rfl, rfl⟩
def firstE : List Int → Int
  | [] => 0
  | e :: r => if e ≠ 0 then e else firstE r
theorem firstE_drop (l : List Int) (k : Nat) (hk : k < l.length) : firstE (l.drop k) = if l[k] ≠ 0 then l[k] else firstE (l.drop (k + 1)) := by
  rw [List.drop_eq_getElem_cons hk, firstE]
theorem undEs : Tryz.prog.underlying 126 = some (.slice 29) := by kernel_rfl
theorem szE : (Tryz.prog.info? 29).map (·.size) = some 1 := by kernel_rfl
theorem first_spec (v : Value) (l : List Int) (w : World) (hv : Rd w v (l.map (Value.int .i64))) : CallP Tryz.prog 65 #[v] (fun r w' => r = .int .i64 (firstE l) ∧ w' = w) w := by
  obtain ⟨A, c, rfl, hc, hm⟩ := hv.slice
  rw [List.length_map] at hv hc ⊢
  refine ⟨S65.calls _ _ _ ?_⟩
  unfold S65
  refine ln undEs ?_
  refine LoopP.inv1 (fun iv w' => ∃ k : Nat, k ≤ l.length ∧ iv = .int .i64 k ∧ w' = w ∧ firstE l = firstE (l.drop k)) (fun iv _ => l.length - (intOf iv).toNat) ⟨0, by omega, rfl, rfl, rfl⟩ ?_
  rintro _ w ⟨k, hk, rfl, rfl, hf⟩ J hJ
  dsimp only [List.headD_cons, List.tail_cons]
  refine bi_lss_c (fun h => ?_) (fun h => ?_)
  · have hk' : k < l.length := by omega
    obtain ⟨a, rfl, hca⟩ := Rd.atI hv k hk'
    rw [firstE_drop l k hk'] at hf
    (repeat with_reducible first|refine ix1 undEs szE hk' ?_|refine ld oneE hca ?_|refine z_b ?_)
    refine bi_neq_c (fun h => ?_) (fun h => ?_)
    · (repeat with_reducible first|refine z_b ?_)
      exact ⟨by rw [hf, if_pos h], rfl⟩
    · (repeat with_reducible first|refine z_c ?_|refine z_o (by omega) ?_)
      exact hJ _ _ ⟨k + 1, by omega, by simp, rfl, by rw [hf, if_neg (by omega)]⟩ (by simp [intOf]; omega)
  · have hkl : k = l.length := by omega
    subst hkl
    rw [List.drop_length] at hf
    (repeat with_reducible first|refine z_c ?_)
    exact ⟨by rw [hf]; rfl, rfl⟩
theorem check_spec (v : Value) (l : List ValT) (w : World) (hv : Vals w [v] l) : CallP Tryz.prog 61 #[v] (fun r w' => r = .int .i64 (recE l) ∧ Below w.heap.size w w') w := by
  obtain ⟨A, c, rfl, hc, hm⟩ := hv.slice
  refine ⟨S61.calls _ _ _ ?_⟩
  unfold S61
  refine ln undRec ?_
  refine bi_eql ?_
  refine (when_spec _ _ _).mono ?_
  rintro _ w ⟨rfl, rfl⟩
  refine ln undRec ?_
  refine bi_gtr ?_
  refine (when_spec _ _ _).mono ?_
  rintro _ w ⟨rfl, rfl⟩
  refine (containsR bad_tells _ l w hv).mono ?_
  rintro _ w1 ⟨rfl, hb⟩
  refine (when_spec _ _ _).mono ?_
  rintro _ w1 ⟨rfl, rfl⟩
  rw [any_bad]
  refine lift (v := .slice (some ⟨w1.heap.size, 0, none⟩) 3 3) (w' := w1.alloc (.cells #[.int .i64 (if decide ((l.length : Int) = 0) then 1 else 0), .int .i64 (if decide ((4 : Int) < l.length) then 4 else 0), .int .i64 (if !(l.all goodV) then 1 else 0)] 29)) (by kernel_rfl) ?_
  have hal := (Below.refl w1.heap.size w1).alloc (Nat.le_refl _) (.cells #[.int .i64 (if decide ((l.length : Int) = 0) then 1 else 0), .int .i64 (if decide ((4 : Int) < l.length) then 4 else 0), .int .i64 (if !(l.all goodV) then 1 else 0)] 29)
  refine (first_spec _ [if decide ((l.length : Int) = 0) then 1 else 0, if decide ((4 : Int) < l.length) then 4 else 0, if !(l.all goodV) then 1 else 0] _ (Own.new w1 29 [.int .i64 (if decide ((l.length : Int) = 0) then 1 else 0), .int .i64 (if decide ((4 : Int) < l.length) then 4 else 0), .int .i64 (if !(l.all goodV) then 1 else 0)] (by simp)).rd).mono ?_
  rintro _ w2 ⟨rfl, rfl⟩
  refine ⟨?_, below_then hb hal⟩
  congr 1
  unfold recE rowE
  by_cases h0 : l.length = 0
  · rw [if_pos h0, decide_eq_true (by omega)]; rfl
  · rw [if_neg h0, decide_eq_false (by omega)]
    by_cases h4 : 4 < l.length
    · rw [if_pos h4, decide_eq_true (by omega)]; rfl
    · rw [if_neg h4, decide_eq_false (by omega)]
      cases l.all goodV <;> rfl
theorem refCheck_spec (v : Value) (l : List ValT) (w : World) (hv : Vals w [v] l) : CallP Tryz.prog 41 #[v] (fun r w' => r = .int .i64 (recE l) ∧ Below w.heap.size w w') w := by
  obtain ⟨A, c, rfl, hc, hm⟩ := hv.slice
  refine ⟨S41.calls _ _ _ ?_⟩
  unfold S41
  refine ln undVs ?_
  refine bi_eql_c (fun h => ?_) (fun h => ?_)
  · (repeat with_reducible first|refine z_b ?_)
    exact ⟨by unfold recE; rw [if_pos (by omega)], Below.refl _ _⟩
  · (repeat with_reducible first|refine z_c ?_)
    refine (refRow_spec _ l w hv).mono ?_
    rintro _ w1 ⟨rfl, hb⟩
    exact ⟨by unfold recE; rw [if_neg (by omega)], hb⟩
theorem key_spec (s : ByteArray) (w : World) : CallP Tryz.prog 33 #[.string s] (fun r w' => r = .bool (keyOk s) ∧ w' = w) w := by
  refine ⟨S33.calls _ _ _ ?_⟩
  unfold S33
  refine lns und9 ?_
  refine bi_gtr_c (fun h => ?_) (fun h => ?_)
  · (repeat with_reducible first|refine z_d ?_)
    refine lns und9 ?_
    (repeat with_reducible first|refine z_d ?_)
    refine bi_leq ?_
    (repeat with_reducible first|refine z_k ?_)
    refine ⟨?_, rfl⟩
    congr 1
    unfold keyOk
    rw [decide_eq_decide]
    omega
  · (repeat with_reducible first|refine z_e ?_|refine z_l ?_)
    exact ⟨by unfold keyOk; rw [decide_eq_false (by omega)], rfl⟩
theorem refKey_spec (s : ByteArray) (w : World) : CallP Tryz.prog 40 #[.string s] (fun r w' => r = .bool (keyOk s) ∧ w' = w) w := by
  refine ⟨S40.calls _ _ _ ?_⟩
  unfold S40
  refine lns und9 ?_
  refine bi_geq_c (fun h => ?_) (fun h => ?_)
  · (repeat with_reducible first|refine z_d ?_)
    refine lns und9 ?_
    (repeat with_reducible first|refine z_d ?_)
    refine bi_leq ?_
    (repeat with_reducible first|refine z_k ?_)
    refine ⟨?_, rfl⟩
    congr 1
    unfold keyOk
    rw [decide_eq_decide]
    omega
  · (repeat with_reducible first|refine z_e ?_|refine z_l ?_)
    exact ⟨by unfold keyOk; rw [decide_eq_false (by omega)], rfl⟩
end Go.Proofs.YtonblppkidpmlaaGreatDoor.E
