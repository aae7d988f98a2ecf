import Derived.Test.YtonblppkidpmlaaGreatDoorM8
namespace Go.Proofs.YtonblppkidpmlaaGreatDoor.E
open Go Go.RowKit
set_option linter.unusedSimpArgs false
set_option linter.unusedVariables false

abbrev iV (l : List Int) : List Value := l.map (Value.int .i64)
section
variable {P : Program} {K : Value → World → Prop} {w : World}
/-- A slice literal of one-cell values. -/
theorem bsO {t e : TypeId} {n : Nat} {parts : Array (Nat × Value)} {xs : List Value} (hb : (Instr.buildSlice t n parts).run P w = .ok (.slice (some ⟨w.heap.size, 0, none⟩) n n) (w.alloc (.cells xs.toArray e))) (hl : xs.length = n) (hn : n ≤ 1000)
    (k : ∀ v' w', Own e w' v' xs → Fresh w.heap.size v' → Below w.heap.size w w' → K v' w') : LiftP P (Instr.buildSlice t n parts) K w := by
  subst hl
  exact lift hb (k _ _ (Own.new w e xs (by omega)) (Fresh.new (Nat.le_refl _) _ _) ((Below.refl _ _).alloc (Nat.le_refl _) _))
end
theorem oneI : oneB Tryz.prog 3 = true := one3
theorem szI : (Tryz.prog.info? 3).map (·.size) = some 1 := sz3
theorem oneBo : oneB Tryz.prog 4 = true := one4
theorem szBo : (Tryz.prog.info? 4).map (·.size) = some 1 := sz4
theorem undSe : Tryz.prog.underlying 111 = some (.array 4 4) := by kernel_rfl
theorem zSe : (Tryz.prog.info? 111).bind (·.zero) = some (.agg #[.bool false, .bool false, .bool false, .bool false]) := by kernel_rfl
theorem x0 : fofs Tryz.prog 53 0 = some (0, 1) := by kernel_rfl
theorem x1 : fofs Tryz.prog 53 1 = some (1, 1) := by kernel_rfl
def ckF (fs : List Int) : Prop := (∀ n ∈ fs, 0 ≤ n ∧ n < 4) ∧ fs.Nodup
open Classical in
/-- What is wrong with an index of these fields (0: nothing). -/
noncomputable def ckI (fs : List Int) : Int := if fs = [] then 1 else if 2 < fs.length then 4 else if ckF fs then 0 else 1
open Classical in
/-- What is wrong with an index. -/
noncomputable def ckX (id : Int) (fs : List Int) : Int := if 1 ≤ id ∧ id ≤ 6 then ckI fs else 1
theorem number53 (id : Int) (w : World) : CallP Tryz.prog 67 #[.int .i64 id] (fun r w' => w = w' ∧ r = .bool (decide (1 ≤ id ∧ id ≤ 6))) w := by
  refine ⟨S67.calls _ _ _ ?_⟩
  unfold S67
  refine bi_geq_c (fun h => ?_) (fun h => ?_)
  · (repeat with_reducible first|refine z_d ?_)
    refine bi_leq_c (fun h1 => ?_) (fun h1 => ?_)
    · (repeat with_reducible first|refine z_k ?_)
      exact ⟨rfl, tB ⟨by omega, by omega⟩⟩
    · (repeat with_reducible first|refine z_k ?_)
      exact ⟨rfl, fB fun e => by omega⟩
  · (repeat with_reducible first|refine z_e ?_|refine z_l ?_)
    exact ⟨rfl, fB fun e => by omega⟩
theorem when52 (b : Bool) (e : Int) (w : World) : CallP Tryz.prog 66 #[.bool b, .int .i64 e] (fun r w' => w = w' ∧ r = .int .i64 (if b then e else 0)) w := by
  refine ⟨S66.calls _ _ _ _ ?_⟩
  unfold S66
  cases b with
  | true => (repeat with_reducible first|refine z_b ?_); exact ⟨rfl, rfl⟩
  | false => (repeat with_reducible first|refine z_c ?_); exact ⟨rfl, rfl⟩
/-- The first that is not 0. -/
def fstE (l : List Int) : Int := (l.find? fun e => decide (e ≠ 0)).getD 0
theorem first51 (v : Value) (es : List Int) (w : World) (hv : Rd w v (iV es)) : CallP Tryz.prog 65 #[v] (fun r w' => w = w' ∧ r = .int .i64 (fstE es)) w := by
  obtain ⟨A, c, rfl, hc, hm⟩ := hv.slice
  have hlen : (iV es).length = es.length := List.length_map _
  rw [hlen] at hv ⊢
  refine ⟨S65.calls _ _ _ ?_⟩
  unfold S65
  refine ln undEs ?_
  refine LoopP.inv1 (fun iv w' => ∃ k : Nat, k ≤ es.length ∧ iv = .int .i64 k ∧ fstE es = fstE (es.drop k) ∧ w = w') (fun iv _ => es.length - (intOf iv).toNat) ⟨0, by omega, rfl, rfl, rfl⟩ ?_
  rintro _ _ ⟨k, hk, rfl, hno, rfl⟩ J hJ
  dsimp only [List.headD_cons, List.tail_cons]
  refine bi_lss_c (fun h => ?_) (fun h => ?_)
  · have hk' : k < es.length := by omega
    obtain ⟨a, rfl, hca⟩ := Rd.atI hv k hk'
    rw [List.drop_eq_getElem_cons hk'] at hno
    (repeat with_reducible first|refine z_b ?_)
    refine ix1 undEs szE hk' ?_
    refine ld oneE hca ?_
    refine bi_neq_c (fun h1 => ?_) (fun h1 => ?_)
    · (repeat with_reducible first|refine z_b ?_)
      refine ⟨rfl, ?_⟩
      rw [hno]
      unfold fstE
      rw [List.find?_cons_of_pos (by simpa using h1)]
      rfl
    · (repeat with_reducible first|refine z_c ?_|refine z_o (by omega) ?_)
      refine hJ _ _ ⟨k + 1, by omega, by simp, ?_, rfl⟩ (by simp [intOf]; omega)
      rw [hno]
      unfold fstE
      rw [List.find?_cons_of_neg (by simpa using h1)]
  · (repeat with_reducible first|refine z_c ?_)
    refine ⟨rfl, ?_⟩
    rw [hno, List.drop_eq_nil_of_le (by omega)]
    rfl
section
variable {P : Program} {K : Value → World → Prop} {w : World}
theorem bs2I {t e : TypeId} {kd : IntKind} (hb : ∀ (w : World) (a b : Int), (Instr.buildSlice t 2 #[(0, .int kd a), (1, .int kd b)]).run P w = .ok (.slice (some ⟨w.heap.size, 0, none⟩) 2 2) (w.alloc (.cells #[.int kd a, .int kd b] e))) {a b : Int}
    (k : ∀ v' w', Own e w' v' [.int kd a, .int kd b] → Fresh w.heap.size v' → Below w.heap.size w w' → K v' w') : LiftP P (Instr.buildSlice t 2 #[(0, .int kd a), (1, .int kd b)]) K w := bsO (xs := [.int kd a, .int kd b]) (hb w a b) rfl (by decide) k
end
theorem bE2 (w : World) (a b : Int) : (Instr.buildSlice 126 2 #[(0, .int .i64 a), (1, .int .i64 b)]).run Tryz.prog w = .ok (.slice (some ⟨w.heap.size, 0, none⟩) 2 2) (w.alloc (.cells #[.int .i64 a, .int .i64 b] 29)) := by kernel_rfl
def seenV (l : List Int) : List Value := (List.range 4).map fun (i : Nat) => .bool (decide ((i : Int) ∈ l))
theorem seen_at (l : List Int) (i : Nat) (hi : i < 4) : (seenV l).toArray[i]? = some (.bool (decide ((i : Int) ∈ l))) := by
  unfold seenV
  rw [List.getElem?_toArray, List.getElem?_map, List.getElem?_range hi]
  rfl
theorem seen_get (l : List Int) (j : Nat) (h : j < (seenV l).length) : (seenV l)[j] = .bool (decide ((j : Int) ∈ l)) := by simp [seenV]
theorem seen_set (l : List Int) (i : Nat) (hi : i < 4) : (seenV l).toArray.setIfInBounds i (.bool true) = (seenV (l ++ [(i : Int)])).toArray := by
  rw [List.setIfInBounds_toArray]
  congr 1
  refine List.ext_getElem (by simp [seenV]) fun j h1 h2 => ?_
  rw [List.getElem_set, seen_get, seen_get]
  split
  · rename_i e
    subst e
    rw [decide_eq_true (by simp)]
  · rename_i e
    congr 1
    rw [decide_eq_decide, List.mem_append]
    refine ⟨.inl, fun h => h.elim id fun h => ?_⟩
    simp only [List.mem_cons, List.not_mem_nil, or_false] at h
    omega
theorem ckF_take {fs : List Int} {k : Nat} (hk : k < fs.length) (h1 : 0 ≤ fs[k]) (h2 : fs[k] < 4) (h3 : fs[k] ∉ fs.take k) (h : ckF (fs.take k)) : ckF (fs.take (k + 1)) := by
  rw [List.take_succ_eq_append_getElem hk]
  refine ⟨fun n hn => ?_, ?_⟩
  · rcases List.mem_append.1 hn with hn | hn
    · exact h.1 n hn
    · simp only [List.mem_cons, List.not_mem_nil, or_false] at hn
      omega
  · rw [List.nodup_append]
    refine ⟨h.2, by simp, fun a ha b hb e => ?_⟩
    simp only [List.mem_cons, List.not_mem_nil, or_false] at hb
    subst hb
    subst e
    exact h3 ha
theorem ckF_not {fs : List Int} {k : Nat} (hk : k < fs.length) (h : fs[k] < 0 ∨ 4 ≤ fs[k] ∨ fs[k] ∈ fs.take k) : ¬ ckF fs := by
  intro hc
  have hb := hc.1 _ (List.getElem_mem hk)
  rcases h with h | h | h
  · omega
  · omega
  · obtain ⟨j, hj, he⟩ := List.getElem_of_mem h
    rw [List.length_take] at hj
    rw [List.getElem_take] at he
    have := (List.pairwise_iff_getElem.1 hc.2) j k (by omega) hk (by omega)
    exact this he
theorem ck_first {id : Int} {fs : List Int} {b1 b2 : Bool} (h1 : b1 = true ↔ ¬ (1 ≤ id ∧ id ≤ 6) ∨ fs.length = 0) (h2 : b2 = true ↔ 2 < fs.length) :
    (fstE [if b1 then 1 else 0, if b2 then 4 else 0] ≠ 0 → ckX id fs = fstE [if b1 then 1 else 0, if b2 then 4 else 0]) ∧ (fstE [if b1 then 1 else 0, if b2 then 4 else 0] = 0 → (1 ≤ id ∧ id ≤ 6) ∧ 1 ≤ fs.length ∧ fs.length ≤ 2) := by
  have hnil : fs = [] ↔ fs.length = 0 := List.length_eq_zero_iff.symm
  unfold ckX ckI
  cases b1 with
  | true =>
    have e : fstE [if true = true then 1 else 0, if b2 = true then 4 else 0] = 1 := rfl
    rw [e]
    refine ⟨fun _ => ?_, fun h => by omega⟩
    rcases h1.1 rfl with h | h
    · rw [if_neg h]
    · split
      · rw [if_pos (hnil.2 h)]
      · rfl
  | false =>
    have hn : ¬ (¬ (1 ≤ id ∧ id ≤ 6) ∨ fs.length = 0) := fun h => by have := h1.2 h; cases this
    have hv : 1 ≤ id ∧ id ≤ 6 := Classical.not_not.1 fun h => hn (.inl h)
    have hl : ¬ fs.length = 0 := fun h => hn (.inr h)
    cases b2 with
    | true =>
      have e : fstE [if false = true then 1 else 0, if true = true then 4 else 0] = 4 := rfl
      rw [e, if_pos hv, if_neg (fun h => hl (hnil.1 h)), if_pos (h2.1 rfl)]
      exact ⟨fun _ => rfl, fun h => by omega⟩
    | false =>
      have e : fstE [if false = true then 1 else 0, if false = true then 4 else 0] = 0 := rfl
      rw [e]
      refine ⟨fun h => absurd rfl h, fun _ => ⟨hv, by omega, ?_⟩⟩
      have : ¬ 2 < fs.length := fun h => by have := h2.2 h; cases this
      omega
theorem CheckIndex27 (id : Int) (vf : Value) (fs : List Int) (w : World) (hv : Rd w vf (iV fs)) : CallP Tryz.prog 39 #[.agg #[.int .i64 id, vf]] (fun r w' => r = .int .i64 (ckX id fs) ∧ Below w.heap.size w w') w := by
  obtain ⟨A, c, rfl, hc, hm⟩ := hv.slice
  have hlen : (iV fs).length = fs.length := List.length_map _
  rw [hlen] at hv hc ⊢
  refine ⟨S39.calls _ _ _ ?_⟩
  unfold S39
  refine bxB ?_
  intro g1 w1 hg1 hB1 hb1
  have hdr : Below w1.heap.size w1 w1.drew := (Below.refl _ _).drew
  have q0 : ∀ w', Below w1.heap.size w1 w' → w'.cell? ⟨g1, 0, none⟩ = some (.int .i64 id) := fun w' h => (hB1.below' h).cell 0
  have q1 : ∀ w', Below w1.heap.size w1 w' → w'.cell? ⟨g1, 1, none⟩ = some (.slice A fs.length c) := fun w' h => (hB1.below' h).cell 1
  refine draw (Below w1.heap.size w1) hdr ?_
  (repeat with_reducible first|refine yfd x0 (by decide) ?_|refine yl1 oneI q0 ?_|refine yfd x1 (by decide) ?_|refine yl1 oneIs q1 ?_|refine yln undIs ?_)
  generalize hw2 : w1.drew = w2 at *
  refine yi_gtr ?_
  refine act ?_
  refine (number53 id w2).mono ?_
  rintro _ _ ⟨rfl, rfl⟩
  refine ⟨_, hdr, fun _ h => h, ?_⟩
  refine yi_not ?_
  rcases Classical.em (1 ≤ id ∧ id ≤ 6) with hp | hp
  all_goals
    first
      | (have hb1' : decide ((fs.length : Int) = 0) = true ↔ ¬ (1 ≤ id ∧ id ≤ 6) ∨ fs.length = 0 := by
           rw [decide_eq_true_eq]
           exact ⟨fun h => .inr (by omega), fun h => h.elim (fun h => absurd hp h) (fun h => by omega)⟩
         rw [decide_eq_true hp]
         simp only [Bool.not_true]
         (repeat with_reducible first|refine yfd x1 (by decide) ?_|refine yl1 oneIs q1 ?_|refine yln undIs ?_|refine z_d ?_)
         refine yi_eql ?_
         (repeat with_reducible first|refine z_l ?_))
      | (have hb1' : true = true ↔ ¬ (1 ≤ id ∧ id ≤ 6) ∨ fs.length = 0 := ⟨fun _ => .inl hp, fun _ => rfl⟩
         rw [decide_eq_false hp]
         simp only [Bool.not_false]
         (repeat with_reducible first|refine z_f ?_|refine z_k ?_))
    refine act ?_
    refine (when52 _ 1 w2).mono ?_
    rintro _ _ ⟨rfl, rfl⟩
    refine ⟨_, hdr, fun _ h => h, ?_⟩
    refine act ?_
    refine (when52 _ 4 w2).mono ?_
    rintro _ _ ⟨rfl, rfl⟩
    refine ⟨_, hdr, fun _ h => h, ?_⟩
    refine act ?_
    refine bs2I bE2 ?_
    intro v3 w3 ho3 _ h3
    have hb3 := below_then hdr h3
    refine ⟨_, hb3, fun _ h => h, ?_⟩
    refine act ?_
    refine (first51 v3 [_, _] w3 ho3.rd).mono ?_
    rintro _ _ ⟨rfl, rfl⟩
    refine ⟨_, hb3, fun _ h => h, ?_⟩
    have hck := ck_first hb1' (b2 := decide ((2 : Int) < fs.length)) (by rw [decide_eq_true_eq]; omega)
    refine bi_neq_c (fun he => ?_) (fun he => ?_)
    · (repeat with_reducible first|refine z_b ?_)
      exact ⟨by rw [hck.1 he], below_then hb1 hb3⟩
    obtain ⟨hid, hl1, hl2⟩ := hck.2 he
    first | exact absurd hid hp | skip
  (repeat with_reducible first|refine z_c ?_)
  refine alB zSe ?_
  intro g4 w4 hg4 hB4 h4
  have hb4 := below_then hb3 h4
  have hs3 := hb3.size
  (repeat with_reducible first|refine fd x1 (by decide) ?_|refine ld oneIs (q1 _ hb4) ?_|refine ln undIs ?_)
  refine LoopP.inv1 (fun iv w' => ∃ k : Nat, k ≤ fs.length ∧ iv = .int .i64 k ∧ ckF (fs.take k) ∧ Blk w' g4 111 (seenV (fs.take k)).toArray ∧ Below w1.heap.size w1 w') (fun iv _ => fs.length - (intOf iv).toNat) ⟨0, by omega, rfl, ⟨by simp, by simp⟩, hB4, hb4⟩ ?_
  rintro _ w5 ⟨k, hk, rfl, hno, hB5, hb5⟩ J hJ
  dsimp only [List.headD_cons, List.tail_cons]
  refine bi_lss_c (fun h => ?_) (fun h => ?_)
  · have hk' : k < fs.length := by omega
    obtain ⟨a, rfl, hca⟩ := Rd.atI ((hv.below hb1).below hb5) k hk'
    have bad : ∀ {J : Prop}, (fs[k] < 0 ∨ 4 ≤ fs[k] ∨ fs[k] ∈ fs.take k) → ckX id fs = 1 := fun h => by
      unfold ckX ckI
      rw [if_pos hid, if_neg (by intro e; rw [e] at hl1; simp at hl1), if_neg (by omega), if_neg (ckF_not hk' h)]
    (repeat with_reducible first|refine z_b ?_)
    refine ix1 undIs szI hk' ?_
    refine ld oneI hca ?_
    refine bi_lss_c (fun h1 => ?_) (fun h1 => ?_)
    · (repeat with_reducible first|refine z_b ?_|refine z_f ?_|refine z_k ?_)
      exact ⟨by rw [bad (J := True) (.inl h1)], below_then hb1 hb5⟩
    (repeat with_reducible first|refine z_d ?_)
    refine bi_geq_c (fun h2 => ?_) (fun h2 => ?_)
    · (repeat with_reducible first|refine z_b ?_|refine z_f ?_|refine z_k ?_|refine z_l ?_)
      exact ⟨by rw [bad (J := True) (.inr (.inl h2))], below_then hb1 hb5⟩
    (repeat with_reducible first|refine z_d ?_|refine z_l ?_)
    obtain ⟨i, hi, hin⟩ : ∃ i : Nat, i < 4 ∧ fs[k] = i := ⟨fs[k].toNat, by omega, by omega⟩
    have hcs := seen_at (fs.take k) i hi
    rw [← hB5.cell i] at hcs
    rw [hin]
    refine ixB undSe szBo hi ?_
    (repeat with_reducible first|refine z_d ?_)
    refine ld oneBo hcs ?_
    rcases Classical.em ((i : Int) ∈ fs.take k) with hs | hs
    · rw [decide_eq_true hs]
      (repeat with_reducible first|refine z_b ?_|refine z_l ?_)
      exact ⟨by rw [bad (J := True) (.inr (.inr (by rw [hin]; exact hs)))], below_then hb1 hb5⟩
    · rw [decide_eq_false hs] at hcs ⊢
      (repeat with_reducible first|refine z_c ?_|refine z_l ?_)
      refine ixB undSe szBo hi ?_
      refine st szBo rfl (by rw [hcs]; rfl) (hB5.frozen i) ?_
      have hB6 := hB5.set_ i (.bool true)
      rw [seen_set _ i hi] at hB6
      have hT6 := Turns.setCell (F := fun j => j = g4) (p := ⟨g4, i, none⟩) (Turns.refl _ w5) (.inl rfl) (.bool true)
      have hb6 := below_own hb5 hT6 (by omega)
      have hf6 := ckF_take hk' (by omega) (by omega) (by rw [hin]; exact hs) hno
      have e6 : fs.take k ++ [(i : Int)] = fs.take (k + 1) := by rw [List.take_succ_eq_append_getElem hk', hin]
      rw [e6] at hB6
      (repeat with_reducible first|refine z_o (by omega) ?_)
      exact hJ _ _ ⟨k + 1, by omega, by simp, hf6, hB6, hb6⟩ (by simp [intOf]; omega)
  · have : k = fs.length := by omega
    subst this
    rw [List.take_length] at hno
    (repeat with_reducible first|refine z_c ?_)
    refine ⟨?_, below_then hb1 hb5⟩
    unfold ckX ckI
    rw [if_pos hid, if_neg (by intro e; rw [e] at hl1; simp at hl1), if_neg (by omega), if_pos hno]
theorem RdKeep {w : World} {a : Addr} {u : Value} (h : w.cell? a = some u) : ∀ w', Below w.heap.size w w' → w'.cell? a = some u := fun w' hb => by rw [hb.cell (World.block_lt_of_cell? _ _ h), h]
theorem CheckIndex34 (id : Int) (vf : Value) (fs : List Int) (w : World) (hv : Rd w vf (iV fs)) : CallP Tryz.prog 44 #[.agg #[.int .i64 id, vf]] (fun r w' => r = .int .i64 (ckX id fs) ∧ Below w.heap.size w w') w := by
  obtain ⟨A, c, rfl, hc, hm⟩ := hv.slice
  have hlen : (iV fs).length = fs.length := List.length_map _
  rw [hlen] at hv hc ⊢
  refine ⟨S44.calls _ _ _ ?_⟩
  unfold S44
  refine bxB ?_
  intro g1 w1 hg1 hB1 hb1
  have q0 : ∀ w', Below w1.heap.size w1 w' → w'.cell? ⟨g1, 0, none⟩ = some (.int .i64 id) := fun w' h => (hB1.below' h).cell 0
  have q1 : ∀ w', Below w1.heap.size w1 w' → w'.cell? ⟨g1, 1, none⟩ = some (.slice A fs.length c) := fun w' h => (hB1.below' h).cell 1
  have hr := Below.refl w1.heap.size w1
  have hnil : fs = [] ↔ fs.length = 0 := List.length_eq_zero_iff.symm
  (repeat with_reducible first|refine fd x0 (by decide) ?_|refine ld oneI (q0 _ hr) ?_)
  refine bi_lss_c (fun h1 => ?_) (fun h1 => ?_)
  · (repeat with_reducible first|refine z_b ?_|refine z_f ?_|refine z_k ?_)
    exact ⟨by unfold ckX; rw [if_neg (by omega)], hb1⟩
  (repeat with_reducible first|refine fd x0 (by decide) ?_|refine ld oneI (q0 _ hr) ?_|refine z_d ?_)
  refine bi_gtr_c (fun h2 => ?_) (fun h2 => ?_)
  · (repeat with_reducible first|refine z_b ?_|refine z_f ?_|refine z_k ?_|refine z_l ?_)
    exact ⟨by unfold ckX; rw [if_neg (by omega)], hb1⟩
  have hid : 1 ≤ id ∧ id ≤ 6 := by omega
  (repeat with_reducible first|refine fd x1 (by decide) ?_|refine ld oneIs (q1 _ hr) ?_|refine ln undIs ?_|refine z_d ?_|refine z_l ?_)
  refine bi_eql_c (fun h3 => ?_) (fun h3 => ?_)
  · (repeat with_reducible first|refine z_b ?_|refine z_l ?_)
    exact ⟨by unfold ckX ckI; rw [if_pos hid, if_pos (hnil.2 (by omega))], hb1⟩
  (repeat with_reducible first|refine fd x1 (by decide) ?_|refine ld oneIs (q1 _ hr) ?_|refine ln undIs ?_|refine z_c ?_|refine z_l ?_)
  refine bi_gtr_c (fun h4 => ?_) (fun h4 => ?_)
  · (repeat with_reducible first|refine z_b ?_)
    exact ⟨by unfold ckX ckI; rw [if_pos hid, if_neg (fun e => h3 (by have := hnil.1 e; omega)), if_pos (by omega)], hb1⟩
  (repeat with_reducible first|refine z_c ?_)
  have hne : ¬ fs = [] := fun e => h3 (by have := hnil.1 e; omega)
  refine LoopP.inv1 (fun iv w' => ∃ k : Nat, k ≤ fs.length ∧ iv = .int .i64 k ∧ ckF (fs.take k) ∧ Below w1.heap.size w1 w') (fun iv _ => fs.length - (intOf iv).toNat) ⟨0, by omega, rfl, ⟨by simp, by simp⟩, Below.refl _ _⟩ ?_
  rintro _ w2 ⟨k, hk, rfl, hno, hb2⟩ J hJ
  dsimp only [List.headD_cons, List.tail_cons]
  (repeat with_reducible first|refine fd x1 (by decide) ?_|refine ld oneIs (q1 _ hb2) ?_|refine ln undIs ?_)
  refine bi_lss_c (fun h5 => ?_) (fun h5 => ?_)
  · have hk' : k < fs.length := by omega
    have hdr : Below w2.heap.size w2 w2.drew := (Below.refl _ _).drew
    have hb3 := below_then hb2 hdr
    have bad : (fs[k] < 0 ∨ 4 ≤ fs[k] ∨ fs[k] ∈ fs.take k) → ckX id fs = 1 := fun h => by
      unfold ckX ckI
      rw [if_pos hid, if_neg hne, if_neg (by omega), if_neg (ckF_not hk' h)]
    obtain ⟨a, rfl, hca⟩ := Rd.atI (hv.below hb1) k hk'
    have kk := RdKeep hca
    (repeat with_reducible first|refine z_b ?_)
    refine draw (Below w1.heap.size w1) hb3 ?_
    generalize w2.drew = w3 at *
    (repeat with_reducible first|refine yfd x1 (by decide) ?_|refine yl1 oneIs q1 ?_|refine yix1 undIs szI k hk' ?_|refine yl1 oneI kk ?_)
    refine yi_lss_c (fun h6 => ?_) (fun h6 => ?_)
    · (repeat with_reducible first|refine z_b ?_|refine z_f ?_|refine z_g ?_|refine z_k ?_)
      skip
      exact ⟨by rw [bad (.inl h6)], below_then hb1 hb3⟩
    (repeat with_reducible first|refine yfd x1 (by decide) ?_|refine yl1 oneIs q1 ?_|refine yix1 undIs szI k hk' ?_|refine yl1 oneI kk ?_|refine z_d ?_)
    refine yi_gtr_c (fun h7 => ?_) (fun h7 => ?_)
    · (repeat with_reducible first|refine z_b ?_|refine z_f ?_|refine z_g ?_|refine z_k ?_|refine z_l ?_)
      skip
      exact ⟨by rw [bad (.inr (.inl (by omega)))], below_then hb1 hb3⟩
    have hk2 : k = 0 ∨ k = 1 := by omega
    rcases hk2 with rfl | rfl
    · (repeat with_reducible first|refine z_c ?_|refine z_d ?_|refine z_e ?_|refine z_l ?_|refine z_c1 (by omega) ?_)
      (repeat with_reducible first|refine z_o (by omega) ?_)
      exact hJ _ _ ⟨1, by omega, by simp, ckF_take hk' (by omega) (by omega) (by simp) hno, hb3⟩ (by simp [intOf]; omega)
    · obtain ⟨a', ha', hca'⟩ := Rd.atI (hv.below hb1) 0 (by omega)
      cases ha'
      have kk' := RdKeep hca'
      (repeat with_reducible first|refine yfd x1 (by decide) ?_|refine yl1 oneIs q1 ?_|refine z_d ?_|refine z_l ?_|refine z_b1 (by omega) ?_)
      refine yix1 undIs szI 0 (by omega) ?_
      (repeat with_reducible first|refine z_d ?_)
      refine yl1 oneI kk' ?_
      (repeat with_reducible first|refine yfd x1 (by decide) ?_|refine yl1 oneIs q1 ?_|refine z_d ?_)
      refine yix1 undIs szI 1 (by omega) ?_
      (repeat with_reducible first|refine z_d ?_)
      refine yl1 oneI kk ?_
      (repeat with_reducible first|refine z_d ?_)
      refine yi_eql_c (fun h8 => ?_) (fun h8 => ?_)
      · (repeat with_reducible first|refine z_b ?_|refine z_d ?_|refine z_k ?_|refine z_l ?_)
        skip
        refine ⟨?_, below_then hb1 hb3⟩
        rw [bad (.inr (.inr ?_))]
        rw [List.take_succ_eq_append_getElem (show 0 < fs.length by omega)]
        simp [h8]
      · (repeat with_reducible first|refine z_c ?_|refine z_d ?_|refine z_k ?_|refine z_l ?_)
        (repeat with_reducible first|refine z_o (by omega) ?_)
        refine hJ _ _ ⟨1 + 1, by omega, by simp, ckF_take hk' (by omega) (by omega) ?_ hno, hb3⟩ (by simp [intOf]; omega)
        rw [List.take_succ_eq_append_getElem (show 0 < fs.length by omega)]
        simp only [List.take_zero, List.nil_append, List.mem_cons, List.not_mem_nil, or_false]
        exact fun e => h8 e.symm
  · have : k = fs.length := by omega
    subst this
    rw [List.take_length] at hno
    (repeat with_reducible first|refine z_c ?_)
    refine ⟨?_, below_then hb1 hb2⟩
    unfold ckX ckI
    rw [if_pos hid, if_neg hne, if_neg (by omega), if_pos hno]
theorem ckI_len {fs : List Int} (h : ckI fs = 0) : 1 ≤ fs.length ∧ fs.length ≤ 2 ∧ ckF fs := by
  unfold ckI at h
  split at h
  · omega
  · rename_i h1
    split at h
    · omega
    · split at h
      · rename_i h3
        have := List.length_pos_iff.2 h1
        exact ⟨by omega, by omega, h3⟩
      · omega
theorem infI : (Tryz.prog.info? 3).map (fun i => (i.zero, i.size, i.bytes)) = some (some (.int .i64 0), 1, 8) := by kernel_rfl
theorem Rd.none' {w : World} {n c : Nat} {cs : List Value} (h : Rd w (.slice none n c) cs) : cs = [] := by
  cases cs with
  | nil => rfl
  | cons x l =>
    obtain ⟨A, c', he, _⟩ := h.slice
    cases he
    obtain ⟨a, ha, _⟩ := h.at 0 (by simp)
    cases ha
theorem Clone28 (v : Value) (l : List Int) (hl : l.length ≤ 100000) (w : World) (hv : Rd w v (iV l)) : CallP Tryz.prog 50 #[v] (fun r w' => Own 3 w' r (iV l) ∧ Fresh w.heap.size r ∧ Below w.heap.size w w') w := by
  obtain ⟨A, c, rfl, hc, hm⟩ := hv.slice
  refine ⟨S50.calls _ _ _ ?_⟩
  unfold S50
  refine ofPR (pr_slnil undIs) ?_
  cases A with
  | none =>
    have := hv.none'
    rw [this] at hv ⊢
    simp only [Option.isNone_none]
    (repeat with_reducible first|refine z_b ?_)
    exact ⟨Own.nil _ _, Fresh.nil _, Below.refl _ _⟩
  | some a =>
    simp only [Option.isNone_some]
    (repeat with_reducible first|refine z_c ?_)
    refine bs0 undIs szI ?_
    have ha := (Below.refl w.heap.size w).alloc (Nat.le_refl _) (.cells #[] 3)
    refine apF w.heap.size undIs infI (by rfl) (by decide) (Own.lit0 w 3) (Fresh.new (Nat.le_refl _) _ _) ha.size (hv.below ha) (fun u hu => by obtain ⟨n, _, rfl⟩ := List.mem_map.1 hu; rfl) (by rw [List.length_map]; simp; omega) ?_
    intro v2 w2 ho2 hf2 hb2 _
    exact ⟨ho2, hf2, ha.trans hb2⟩
theorem ints_rd {w : World} {v : Value} {l : List Int} (h : Ints w [v] l) : Rd w v (iV l) ∧ ∀ n ∈ l, (Lit.int .i64 n).wf = true := by
  obtain ⟨A, c, he, h1, h2, h3⟩ := h
  simp only [List.cons.injEq, and_true] at he
  subst he
  refine ⟨⟨A, c, by rw [List.length_map], by rw [List.length_map]; exact h1, by simp only [maxLen] at h2; omega, fun i u hu => ?_⟩, fun n hn => ?_⟩
  · rw [List.getElem?_map] at hu
    obtain ⟨y, hy, rfl⟩ := Option.map_eq_some_iff.1 hu
    obtain ⟨a, us, ha, hus, hcell, hr, _⟩ := h3 i y hy
    subst hr
    refine ⟨a, ha, ?_⟩
    have := hcell 0 _ rfl
    rwa [Nat.mul_one, Nat.add_zero] at this
  · obtain ⟨i, hi, rfl⟩ := List.getElem_of_mem hn
    obtain ⟨a, us, ha, hus, hcell, hr, hw⟩ := h3 i _ (List.getElem?_eq_getElem hi)
    exact hw
end Go.Proofs.YtonblppkidpmlaaGreatDoor.E
