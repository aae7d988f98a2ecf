import Derived.Test.YthicbfopjakiiaaMd
namespace Go.Proofs.Ythicbfopjakiiaa.E
open Go Go.RowKit
set_option linter.unusedSimpArgs false
set_option linter.unusedVariables false

def okN (n : Int) : Bool := decide (0 ≤ n ∧ n ≤ 1099511627776)
def Let.nums (L : Let) : List Int := [L.frm, L.to, L.a, L.b, L.c, L.d]
def Let.texts (L : Let) : List ByteArray := [L.s, L.t, L.body]
def goodL (L : Let) (is : List (ByteArray × Int × Bool × Unit)) : Bool := (decide (0 ≤ L.kind ∧ L.kind ≤ 255) && decide (0 ≤ L.code ∧ L.code ≤ 1099511627776)) && L.nums.all okN && is.all fun x => okN x.2.1
def numsB (l : List Int) : List UInt8 := (l.map fun n => Pack.num n.toNat).flatten
def textsB (l : List ByteArray) : List UInt8 := (l.map Pack.text).flatten
def pairsB (l : List (ByteArray × ByteArray × Unit)) : List UInt8 := (l.map fun p => Pack.text p.1 ++ Pack.text p.2.1).flatten
def bitN (b : Bool) : Nat := if b then 1 else 0
def intentsB (l : List (ByteArray × Int × Bool × Unit)) : List UInt8 := (l.map fun p => Pack.text p.1 ++ (Pack.num p.2.1.toNat ++ Pack.num (bitN p.2.2.1))).flatten
def packedB (L : Let) (ps : List (ByteArray × ByteArray × Unit)) (is : List (ByteArray × Int × Bool × Unit)) : List UInt8 :=
  Pack.num L.kind.toNat ++ numsB L.nums ++ (Pack.num L.code.toNat ++ Pack.num (bitN L.yes)) ++ textsB L.texts ++ Pack.num ps.length ++ pairsB ps ++ Pack.num is.length ++ intentsB is
def packErr (L : Let) (ps : List (ByteArray × ByteArray × Unit)) (is : List (ByteArray × Int × Bool × Unit)) : Nat :=
  if goodL L is = false then 1 else if 256 < ps.length ∨ 256 < is.length ∨ 65536 < bulkL L ps is then 4 else if 65536 < (packedB L ps is).length then 4 else 0
theorem all_take_succ {α : Type} (p : α → Bool) (l : List α) (k : Nat) (hk : k < l.length) : (l.take (k + 1)).all p = ((l.take k).all p && p l[k]) := by
  rw [List.take_succ_eq_append_getElem hk, List.all_append]; simp
theorem map_take_succ {α β : Type} (f : α → List β) (l : List α) (k : Nat) (hk : k < l.length) : ((l.take (k + 1)).map f).flatten = ((l.take k).map f).flatten ++ f l[k] := by
  rw [List.take_succ_eq_append_getElem hk, List.map_append, List.flatten_append]; simp
/-- Texts are not longer than the bulk. -/
theorem addB_text (n : Nat) (s : ByteArray) (h : addB n s ≤ 65536) : s.size ≤ 65536 ∧ n ≤ 65536 := by unfold addB at h; split at h <;> omega
theorem bulkP_texts : ∀ (l : List (ByteArray × ByteArray × Unit)) (n : Nat), bulkP n l ≤ 65536 → n ≤ 65536 ∧ ∀ p ∈ l, p.1.size ≤ 65536 ∧ p.2.1.size ≤ 65536 := by
  intro l
  induction l with
  | nil => intro n h; exact ⟨h, by simp⟩
  | cons p r ih =>
    intro n h
    obtain ⟨h1, h2⟩ := ih _ h
    obtain ⟨h3, h4⟩ := addB_text _ _ h1
    obtain ⟨h5, h6⟩ := addB_text _ _ h4
    refine ⟨h6, fun q hq => ?_⟩
    rcases List.mem_cons.1 hq with rfl | hq
    · exact ⟨h5, h3⟩
    · exact h2 q hq
theorem bulkI_texts : ∀ (l : List (ByteArray × Int × Bool × Unit)) (n : Nat), bulkI n l ≤ 65536 → n ≤ 65536 ∧ ∀ p ∈ l, p.1.size ≤ 65536 := by
  intro l
  induction l with
  | nil => intro n h; exact ⟨h, by simp⟩
  | cons p r ih =>
    intro n h
    obtain ⟨h1, h2⟩ := ih _ h
    obtain ⟨h3, h4⟩ := addB_text _ _ h1
    refine ⟨h4, fun q hq => ?_⟩
    rcases List.mem_cons.1 hq with rfl | hq
    · exact h3
    · exact h2 q hq
theorem num_le6 (n : Nat) (h : n ≤ 1099511627776) : (Pack.num n).length ≤ 6 := Pack.num_log 5 n (by omega)
theorem text_le (s : ByteArray) (h : s.size ≤ 65536) : (Pack.text s).length ≤ 65542 := by
  have e : s.data.toList.length = s.size := by rw [Array.length_toList]; rfl
  have := num_le6 s.data.toList.length (by omega)
  rw [Pack.text, List.length_append]; omega
theorem flat_bound {α : Type} (f : α → List UInt8) (b : Nat) : ∀ (l : List α), (∀ x ∈ l, (f x).length ≤ b) → ((l.map f).flatten).length ≤ l.length * b := by
  intro l
  induction l with
  | nil => intro _; simp
  | cons x r ih =>
    intro h
    have h1 := ih fun y hy => h y (by simp [hy])
    have h2 := h x (by simp)
    simp only [List.map_cons, List.flatten_cons, List.length_append, List.length_cons]
    rw [Nat.succ_mul]; omega
theorem nums_ok (L : Let) (h : L.nums.all okN = true) : ∀ n ∈ L.nums, 0 ≤ n ∧ n ≤ 1099511627776 := fun n hn => by
  have := List.all_eq_true.1 h n hn
  simpa [okN] using this

theorem Pack_spec (L : Let) (p q : Value) (ps : List (ByteArray × ByteArray × Unit)) (is : List (ByteArray × Int × Bool × Unit)) (w : World) (hp : Pairs w [p] ps) (hq : Intents w [q] is) :
    CallP Try.prog 74 #[.agg (L.cells p q)] (fun r w' => (∃ s, r = .tuple #[.string s, .int .i64 (packErr L ps is)]) ∧ Below w.heap.size w w') w := by
  obtain ⟨A, cA, rfl, hcA, hmA⟩ := hp.slice
  obtain ⟨A', cA', rfl, hcA', hmA'⟩ := hq.slice
  refine ⟨S74.calls _ _ _ ?_⟩
  unfold S74
  refine bx ?_
  have hL : Blk (w.alloc (.cells (Value.agg (L.cells (.slice A ps.length cA) (.slice A' is.length cA'))).cells 58)) w.heap.size 58 (L.cells (.slice A ps.length cA) (.slice A' is.length cA')) := Blk.new w 58 _
  have ha := (Below.refl w.heap.size w).alloc (Nat.le_refl _) (.cells (Value.agg (L.cells (.slice A ps.length cA) (.slice A' is.length cA'))).cells 58)
  generalize w.alloc (.cells (Value.agg (L.cells (.slice A ps.length cA) (.slice A' is.length cA'))).cells 58) = w1 at *
  have hp1 := keeps_Pairs _ _ _ _ ha hp
  have hq1 := keeps_Intents _ _ _ _ ha hq
  have hfin : ∀ {w'}, Below w1.heap.size w1 w' → Below w.heap.size w w' := fun h => below_then ha h
  generalize hg : w.heap.size = g at *
  clear hp hq
  refine seg1 hL rfl rfl ?_
  refine (numbers_spec g w1).mono ?_
  rintro vn w2 ⟨hn2, hfn, hb2⟩
  have hnl : (ptrs g [1, 2, 3, 4, 5, 6]).length = 6 := by simp [ptrs]
  obtain ⟨An, cn, rfl⟩ := hn2.slice
  rw [hnl]
  refine ln und103 ?_
  refine LoopP.inv2 (fun b i w' => ∃ k : Nat, k ≤ 6 ∧ i = .int .i64 k ∧ b = .bool ((decide (0 ≤ L.kind ∧ L.kind ≤ 255) && decide (0 ≤ L.code ∧ L.code ≤ 1099511627776)) && (L.nums.take k).all okN) ∧ w2 = w') (fun _ i _ => 6 - (intOf i).toNat) ⟨0, by omega, rfl, by simp, rfl⟩ ?_
  rintro _ _ _ ⟨k, hk, rfl, rfl, rfl⟩ J hJ
  dsimp only [List.headD_cons, List.tail_cons]
  refine bi_lss_c (fun h => ?_) (fun h => ?_)
  · have hk6 : k < 6 := by omega
    have hkl : k < L.nums.length := hk6
    obtain ⟨a, rfl, hca⟩ := Rd.at hn2.rd k (by omega)
    have hL2 := hL.below' hb2
    have hcell : w2.cell? ⟨g, ([1, 2, 3, 4, 5, 6] : List Nat)[k]'(by simpa using hk6), none⟩ = some (.int .i64 L.nums[k]) := by
      obtain rfl | rfl | rfl | rfl | rfl | rfl : k = 0 ∨ k = 1 ∨ k = 2 ∨ k = 3 ∨ k = 4 ∨ k = 5 := by omega
      · exact hL2.cell 1
      · exact hL2.cell 2
      · exact hL2.cell 3
      · exact hL2.cell 4
      · exact hL2.cell 5
      · exact hL2.cell 6
    have hca' : w2.cell? (a.add k) = some (.pointer (some ⟨g, ([1, 2, 3, 4, 5, 6] : List Nat)[k]'(by simpa using hk6), none⟩)) := by rw [hca]; simp only [ptrs, List.getElem_map]
    have e := all_take_succ okN L.nums k hkl
    (repeat with_reducible first | refine ix1 und103 sz102 hk6 ?_| refine ld one102 hca' ?_|refine z_a ?_|refine z_b ?_|refine z_c ?_|refine z_d ?_|refine z_e ?_|refine z_f ?_|refine z_g ?_|refine z_h ?_|refine z_i ?_|refine z_j ?_|refine z_k ?_|refine z_l ?_|refine z_m (by omega) ?_|refine z_n (by omega) ?_|refine z_o (by omega) ?_|refine z_p (by omega) ?_|refine z_q (by omega) ?_|refine z_r (by omega) ?_|refine z_s (by omega) ?_|refine z_t (by omega) ?_|refine z_u (by omega) ?_|refine z_v (by omega) ?_|refine z_w (by omega) ?_|refine z_x (by omega) ?_|refine z_y (by omega) ?_|refine z_z (by omega) ?_|refine z_A ?_|refine z_B ?_|refine z_C ?_|refine z_D ?_|refine z_E ?_|refine z_F ?_|refine z_G ?_|refine z_H ?_|refine z_I ?_|refine z_J ?_|refine z_K (by omega) (by decide) ?_|refine z_L (by omega) (by decide) ?_|refine z_M (by omega) ?_|refine z_N (by omega) ?_|refine z_O (by omega) ?_|refine z_P ?_|refine z_Q ?_|refine z_R ?_|refine z_S ?_|refine z_T ?_|refine z_U (by decide) ?_|refine z_V (by decide) ?_)
    generalize hgd : ((decide (0 ≤ L.kind ∧ L.kind ≤ 255) && decide (0 ≤ L.code ∧ L.code ≤ 1099511627776)) && (L.nums.take k).all okN) = gd at *
    cases gd with
    | true =>
      (repeat with_reducible first | refine ld one3 hcell ?_|refine z_a ?_|refine z_b ?_|refine z_c ?_|refine z_d ?_|refine z_e ?_|refine z_f ?_|refine z_g ?_|refine z_h ?_|refine z_i ?_|refine z_j ?_|refine z_k ?_|refine z_l ?_|refine z_m (by omega) ?_|refine z_n (by omega) ?_|refine z_o (by omega) ?_|refine z_p (by omega) ?_|refine z_q (by omega) ?_|refine z_r (by omega) ?_|refine z_s (by omega) ?_|refine z_t (by omega) ?_|refine z_u (by omega) ?_|refine z_v (by omega) ?_|refine z_w (by omega) ?_|refine z_x (by omega) ?_|refine z_y (by omega) ?_|refine z_z (by omega) ?_|refine z_A ?_|refine z_B ?_|refine z_C ?_|refine z_D ?_|refine z_E ?_|refine z_F ?_|refine z_G ?_|refine z_H ?_|refine z_I ?_|refine z_J ?_|refine z_K (by omega) (by decide) ?_|refine z_L (by omega) (by decide) ?_|refine z_M (by omega) ?_|refine z_N (by omega) ?_|refine z_O (by omega) ?_|refine z_P ?_|refine z_Q ?_|refine z_R ?_|refine z_S ?_|refine z_T ?_|refine z_U (by decide) ?_|refine z_V (by decide) ?_)
      refine (within_spec _ _ _).mono ?_
      rintro _ _ ⟨rfl, rfl⟩
      (repeat with_reducible first|refine z_a ?_|refine z_b ?_|refine z_c ?_|refine z_d ?_|refine z_e ?_|refine z_f ?_|refine z_g ?_|refine z_h ?_|refine z_i ?_|refine z_j ?_|refine z_k ?_|refine z_l ?_|refine z_m (by omega) ?_|refine z_n (by omega) ?_|refine z_o (by omega) ?_|refine z_p (by omega) ?_|refine z_q (by omega) ?_|refine z_r (by omega) ?_|refine z_s (by omega) ?_|refine z_t (by omega) ?_|refine z_u (by omega) ?_|refine z_v (by omega) ?_|refine z_w (by omega) ?_|refine z_x (by omega) ?_|refine z_y (by omega) ?_|refine z_z (by omega) ?_|refine z_A ?_|refine z_B ?_|refine z_C ?_|refine z_D ?_|refine z_E ?_|refine z_F ?_|refine z_G ?_|refine z_H ?_|refine z_I ?_|refine z_J ?_|refine z_K (by omega) (by decide) ?_|refine z_L (by omega) (by decide) ?_|refine z_M (by omega) ?_|refine z_N (by omega) ?_|refine z_O (by omega) ?_|refine z_P ?_|refine z_Q ?_|refine z_R ?_|refine z_S ?_|refine z_T ?_|refine z_U (by decide) ?_|refine z_V (by decide) ?_)
      refine hJ _ _ _ ⟨k + 1, by omega, by simp, ?_, rfl⟩ (by simp [intOf]; omega)
      rw [e, ← Bool.and_assoc, hgd]
      simp [okN]
    | false =>
      (repeat with_reducible first|refine z_a ?_|refine z_b ?_|refine z_c ?_|refine z_d ?_|refine z_e ?_|refine z_f ?_|refine z_g ?_|refine z_h ?_|refine z_i ?_|refine z_j ?_|refine z_k ?_|refine z_l ?_|refine z_m (by omega) ?_|refine z_n (by omega) ?_|refine z_o (by omega) ?_|refine z_p (by omega) ?_|refine z_q (by omega) ?_|refine z_r (by omega) ?_|refine z_s (by omega) ?_|refine z_t (by omega) ?_|refine z_u (by omega) ?_|refine z_v (by omega) ?_|refine z_w (by omega) ?_|refine z_x (by omega) ?_|refine z_y (by omega) ?_|refine z_z (by omega) ?_|refine z_A ?_|refine z_B ?_|refine z_C ?_|refine z_D ?_|refine z_E ?_|refine z_F ?_|refine z_G ?_|refine z_H ?_|refine z_I ?_|refine z_J ?_|refine z_K (by omega) (by decide) ?_|refine z_L (by omega) (by decide) ?_|refine z_M (by omega) ?_|refine z_N (by omega) ?_|refine z_O (by omega) ?_|refine z_P ?_|refine z_Q ?_|refine z_R ?_|refine z_S ?_|refine z_T ?_|refine z_U (by decide) ?_|refine z_V (by decide) ?_)
      refine hJ _ _ _ ⟨k + 1, by omega, by simp, ?_, rfl⟩ (by simp [intOf]; omega)
      rw [e, ← Bool.and_assoc, hgd]
      rfl
  have hk6 : k = 6 := by omega
  subst hk6
  clear hJ
  have hL2 := hL.below' hb2
  have c10 : w2.cell? ⟨g, 10, none⟩ = some (.slice A' is.length cA') := hL2.cell 10
  (repeat with_reducible first | refine fd l10 (by decide) ?_| refine ld one56 c10 ?_|refine z_a ?_|refine z_b ?_|refine z_c ?_|refine z_d ?_|refine z_e ?_|refine z_f ?_|refine z_g ?_|refine z_h ?_|refine z_i ?_|refine z_j ?_|refine z_k ?_|refine z_l ?_|refine z_m (by omega) ?_|refine z_n (by omega) ?_|refine z_o (by omega) ?_|refine z_p (by omega) ?_|refine z_q (by omega) ?_|refine z_r (by omega) ?_|refine z_s (by omega) ?_|refine z_t (by omega) ?_|refine z_u (by omega) ?_|refine z_v (by omega) ?_|refine z_w (by omega) ?_|refine z_x (by omega) ?_|refine z_y (by omega) ?_|refine z_z (by omega) ?_|refine z_A ?_|refine z_B ?_|refine z_C ?_|refine z_D ?_|refine z_E ?_|refine z_F ?_|refine z_G ?_|refine z_H ?_|refine z_I ?_|refine z_J ?_|refine z_K (by omega) (by decide) ?_|refine z_L (by omega) (by decide) ?_|refine z_M (by omega) ?_|refine z_N (by omega) ?_|refine z_O (by omega) ?_|refine z_P ?_|refine z_Q ?_|refine z_R ?_|refine z_S ?_|refine z_T ?_|refine z_U (by decide) ?_|refine z_V (by decide) ?_)
  refine ln und56 ?_
  refine LoopP.inv2 (fun b i w' => ∃ k : Nat, k ≤ is.length ∧ i = .int .i64 k ∧ b = .bool (((decide (0 ≤ L.kind ∧ L.kind ≤ 255) && decide (0 ≤ L.code ∧ L.code ≤ 1099511627776)) && L.nums.all okN) && (is.take k).all fun x => okN x.2.1) ∧ Below w1.heap.size w1 w') (fun _ i _ => is.length - (intOf i).toNat) ⟨0, by omega, rfl, by simp [Let.nums], hb2⟩ ?_
  rintro _ _ w3 ⟨k, hk, rfl, rfl, hb3⟩ J hJ
  dsimp only [List.headD_cons, List.tail_cons]
  refine bi_lss_c (fun h => ?_) (fun h => ?_)
  · have hkp : k < is.length := by omega
    obtain ⟨a, us, rfl, hus, hcell, hrd⟩ := rRow.at (keeps_Intents _ _ _ _ hb3 hq1) k hkp
    obtain ⟨rfl, hz1⟩ := intent_cells hrd
    have e := all_take_succ (fun x => okN x.2.1) is k hkp
    (repeat with_reducible first|refine z_a ?_|refine z_b ?_|refine z_c ?_|refine z_d ?_|refine z_e ?_|refine z_f ?_|refine z_g ?_|refine z_h ?_|refine z_i ?_|refine z_j ?_|refine z_k ?_|refine z_l ?_|refine z_m (by omega) ?_|refine z_n (by omega) ?_|refine z_o (by omega) ?_|refine z_p (by omega) ?_|refine z_q (by omega) ?_|refine z_r (by omega) ?_|refine z_s (by omega) ?_|refine z_t (by omega) ?_|refine z_u (by omega) ?_|refine z_v (by omega) ?_|refine z_w (by omega) ?_|refine z_x (by omega) ?_|refine z_y (by omega) ?_|refine z_z (by omega) ?_|refine z_A ?_|refine z_B ?_|refine z_C ?_|refine z_D ?_|refine z_E ?_|refine z_F ?_|refine z_G ?_|refine z_H ?_|refine z_I ?_|refine z_J ?_|refine z_K (by omega) (by decide) ?_|refine z_L (by omega) (by decide) ?_|refine z_M (by omega) ?_|refine z_N (by omega) ?_|refine z_O (by omega) ?_|refine z_P ?_|refine z_Q ?_|refine z_R ?_|refine z_S ?_|refine z_T ?_|refine z_U (by decide) ?_|refine z_V (by decide) ?_)
    refine ix und56 sz68 (by omega) (by omega) ?_
    rw [Int.toNat_natCast]
    refine ldR agg68 hcell (by rw [sz68]; rfl) ?_
    refine al z68 ?_
    have hV0 : Blk (w3.alloc (.cells (Value.agg #[.string ⟨#[]⟩, .int .i64 0, .bool false]).cells 68)) w3.heap.size 68 #[.string ⟨#[]⟩, .int .i64 0, .bool false] := Blk.new w3 68 _
    have hav := (Below.refl w3.heap.size w3).alloc (Nat.le_refl _) (.cells (Value.agg #[.string ⟨#[]⟩, .int .i64 0, .bool false]).cells 68)
    refine stA hV0 (by exact sz68) (by rfl) (by simp [Value.oneCell']) ?_
    have hV := hV0.row #[.string is[k].1, .int .i64 is[k].2.1, .bool is[k].2.2.1]
    have hb4 := below_setRow hav (Nat.le_refl _) #[.string is[k].1, .int .i64 is[k].2.1, .bool is[k].2.2.1]
    rw [show [Value.string is[k].1, .int .i64 is[k].2.1, .bool is[k].2.2.1].toArray = #[.string is[k].1, .int .i64 is[k].2.1, .bool is[k].2.2.1] from rfl]
    generalize (w3.alloc (.cells (Value.agg #[.string ⟨#[]⟩, .int .i64 0, .bool false]).cells 68)).setRow w3.heap.size #[.string is[k].1, .int .i64 is[k].2.1, .bool is[k].2.2.1] = w4 at *
    have v1 : w4.cell? ⟨w3.heap.size, 1, none⟩ = some (.int .i64 is[k].2.1) := hV.cell 1
    have hb4' := below_then hb3 hb4
    generalize hgd : (((decide (0 ≤ L.kind ∧ L.kind ≤ 255) && decide (0 ≤ L.code ∧ L.code ≤ 1099511627776)) && L.nums.all okN) && (is.take k).all fun x => okN x.2.1) = gd at *
    cases gd with
    | true =>
      (repeat with_reducible first | refine fd q1' (by decide) ?_| refine ld one3 v1 ?_|refine z_a ?_|refine z_b ?_|refine z_c ?_|refine z_d ?_|refine z_e ?_|refine z_f ?_|refine z_g ?_|refine z_h ?_|refine z_i ?_|refine z_j ?_|refine z_k ?_|refine z_l ?_|refine z_m (by omega) ?_|refine z_n (by omega) ?_|refine z_o (by omega) ?_|refine z_p (by omega) ?_|refine z_q (by omega) ?_|refine z_r (by omega) ?_|refine z_s (by omega) ?_|refine z_t (by omega) ?_|refine z_u (by omega) ?_|refine z_v (by omega) ?_|refine z_w (by omega) ?_|refine z_x (by omega) ?_|refine z_y (by omega) ?_|refine z_z (by omega) ?_|refine z_A ?_|refine z_B ?_|refine z_C ?_|refine z_D ?_|refine z_E ?_|refine z_F ?_|refine z_G ?_|refine z_H ?_|refine z_I ?_|refine z_J ?_|refine z_K (by omega) (by decide) ?_|refine z_L (by omega) (by decide) ?_|refine z_M (by omega) ?_|refine z_N (by omega) ?_|refine z_O (by omega) ?_|refine z_P ?_|refine z_Q ?_|refine z_R ?_|refine z_S ?_|refine z_T ?_|refine z_U (by decide) ?_|refine z_V (by decide) ?_)
      refine (within_spec _ _ _).mono ?_
      rintro _ _ ⟨rfl, rfl⟩
      (repeat with_reducible first|refine z_a ?_|refine z_b ?_|refine z_c ?_|refine z_d ?_|refine z_e ?_|refine z_f ?_|refine z_g ?_|refine z_h ?_|refine z_i ?_|refine z_j ?_|refine z_k ?_|refine z_l ?_|refine z_m (by omega) ?_|refine z_n (by omega) ?_|refine z_o (by omega) ?_|refine z_p (by omega) ?_|refine z_q (by omega) ?_|refine z_r (by omega) ?_|refine z_s (by omega) ?_|refine z_t (by omega) ?_|refine z_u (by omega) ?_|refine z_v (by omega) ?_|refine z_w (by omega) ?_|refine z_x (by omega) ?_|refine z_y (by omega) ?_|refine z_z (by omega) ?_|refine z_A ?_|refine z_B ?_|refine z_C ?_|refine z_D ?_|refine z_E ?_|refine z_F ?_|refine z_G ?_|refine z_H ?_|refine z_I ?_|refine z_J ?_|refine z_K (by omega) (by decide) ?_|refine z_L (by omega) (by decide) ?_|refine z_M (by omega) ?_|refine z_N (by omega) ?_|refine z_O (by omega) ?_|refine z_P ?_|refine z_Q ?_|refine z_R ?_|refine z_S ?_|refine z_T ?_|refine z_U (by decide) ?_|refine z_V (by decide) ?_)
      refine hJ _ _ _ ⟨k + 1, by omega, by simp, ?_, hb4'⟩ (by simp [intOf]; omega)
      rw [e, ← Bool.and_assoc, hgd]
      simp [okN]
    | false =>
      (repeat with_reducible first|refine z_a ?_|refine z_b ?_|refine z_c ?_|refine z_d ?_|refine z_e ?_|refine z_f ?_|refine z_g ?_|refine z_h ?_|refine z_i ?_|refine z_j ?_|refine z_k ?_|refine z_l ?_|refine z_m (by omega) ?_|refine z_n (by omega) ?_|refine z_o (by omega) ?_|refine z_p (by omega) ?_|refine z_q (by omega) ?_|refine z_r (by omega) ?_|refine z_s (by omega) ?_|refine z_t (by omega) ?_|refine z_u (by omega) ?_|refine z_v (by omega) ?_|refine z_w (by omega) ?_|refine z_x (by omega) ?_|refine z_y (by omega) ?_|refine z_z (by omega) ?_|refine z_A ?_|refine z_B ?_|refine z_C ?_|refine z_D ?_|refine z_E ?_|refine z_F ?_|refine z_G ?_|refine z_H ?_|refine z_I ?_|refine z_J ?_|refine z_K (by omega) (by decide) ?_|refine z_L (by omega) (by decide) ?_|refine z_M (by omega) ?_|refine z_N (by omega) ?_|refine z_O (by omega) ?_|refine z_P ?_|refine z_Q ?_|refine z_R ?_|refine z_S ?_|refine z_T ?_|refine z_U (by decide) ?_|refine z_V (by decide) ?_)
      refine hJ _ _ _ ⟨k + 1, by omega, by simp, ?_, hb4'⟩ (by simp [intOf]; omega)
      rw [e, ← Bool.and_assoc, hgd]
      rfl
  have hkp : k = is.length := by omega
  subst hkp
  clear hJ
  rw [List.take_length]
  have hgoodE : (((decide (0 ≤ L.kind ∧ L.kind ≤ 255) && decide (0 ≤ L.code ∧ L.code ≤ 1099511627776)) && L.nums.all okN) && is.all fun x => okN x.2.1) = goodL L is := rfl
  rw [hgoodE]
  cases hgood : goodL L is with
  | false =>
    (repeat with_reducible first|refine z_a ?_|refine z_b ?_|refine z_c ?_|refine z_d ?_|refine z_e ?_|refine z_f ?_|refine z_g ?_|refine z_h ?_|refine z_i ?_|refine z_j ?_|refine z_k ?_|refine z_l ?_|refine z_m (by omega) ?_|refine z_n (by omega) ?_|refine z_o (by omega) ?_|refine z_p (by omega) ?_|refine z_q (by omega) ?_|refine z_r (by omega) ?_|refine z_s (by omega) ?_|refine z_t (by omega) ?_|refine z_u (by omega) ?_|refine z_v (by omega) ?_|refine z_w (by omega) ?_|refine z_x (by omega) ?_|refine z_y (by omega) ?_|refine z_z (by omega) ?_|refine z_A ?_|refine z_B ?_|refine z_C ?_|refine z_D ?_|refine z_E ?_|refine z_F ?_|refine z_G ?_|refine z_H ?_|refine z_I ?_|refine z_J ?_|refine z_K (by omega) (by decide) ?_|refine z_L (by omega) (by decide) ?_|refine z_M (by omega) ?_|refine z_N (by omega) ?_|refine z_O (by omega) ?_|refine z_P ?_|refine z_Q ?_|refine z_R ?_|refine z_S ?_|refine z_T ?_|refine z_U (by decide) ?_|refine z_V (by decide) ?_)
    refine ⟨⟨⟨#[]⟩, ?_⟩, hfin hb3⟩
    rw [packErr, if_pos hgood]; rfl
  | true =>
    have hk0 : 0 ≤ L.kind ∧ L.kind ≤ 255 := by
      simp only [goodL, Bool.and_eq_true, decide_eq_true_eq] at hgood; exact hgood.1.1.1
    have hcode : 0 ≤ L.code ∧ L.code ≤ 1099511627776 := by
      simp only [goodL, Bool.and_eq_true, decide_eq_true_eq] at hgood; exact hgood.1.1.2
    have hnums : ∀ n ∈ L.nums, 0 ≤ n ∧ n ≤ 1099511627776 := by
      refine nums_ok L ?_
      simp only [goodL, Bool.and_eq_true] at hgood; exact hgood.1.2
    have hvers : ∀ x ∈ is, 0 ≤ x.2.1 ∧ x.2.1 ≤ 1099511627776 := by
      intro x hx
      simp only [goodL, Bool.and_eq_true] at hgood
      have := List.all_eq_true.1 hgood.2 x hx
      simpa [okN] using this
    (repeat with_reducible first|refine z_a ?_|refine z_b ?_|refine z_c ?_|refine z_d ?_|refine z_e ?_|refine z_f ?_|refine z_g ?_|refine z_h ?_|refine z_i ?_|refine z_j ?_|refine z_k ?_|refine z_l ?_|refine z_m (by omega) ?_|refine z_n (by omega) ?_|refine z_o (by omega) ?_|refine z_p (by omega) ?_|refine z_q (by omega) ?_|refine z_r (by omega) ?_|refine z_s (by omega) ?_|refine z_t (by omega) ?_|refine z_u (by omega) ?_|refine z_v (by omega) ?_|refine z_w (by omega) ?_|refine z_x (by omega) ?_|refine z_y (by omega) ?_|refine z_z (by omega) ?_|refine z_A ?_|refine z_B ?_|refine z_C ?_|refine z_D ?_|refine z_E ?_|refine z_F ?_|refine z_G ?_|refine z_H ?_|refine z_I ?_|refine z_J ?_|refine z_K (by omega) (by decide) ?_|refine z_L (by omega) (by decide) ?_|refine z_M (by omega) ?_|refine z_N (by omega) ?_|refine z_O (by omega) ?_|refine z_P ?_|refine z_Q ?_|refine z_R ?_|refine z_S ?_|refine z_T ?_|refine z_U (by decide) ?_|refine z_V (by decide) ?_)
    refine JoinP.cut (fun vs w' => vs = [.bool (decide (256 < ps.length ∨ 256 < is.length ∨ 65536 < bulkL L ps is))] ∧ Below w1.heap.size w1 w') (fun J1 hJ1 => ?_) ?_
    · have hL3 := hL.below' hb3
      have d9 : w3.cell? ⟨g, 9, none⟩ = some (.slice A ps.length cA) := hL3.cell 9
      have d10 : w3.cell? ⟨g, 10, none⟩ = some (.slice A' is.length cA') := hL3.cell 10
      (repeat with_reducible first | refine fd l9 (by decide) ?_| refine ld one55 d9 ?_|refine z_a ?_|refine z_b ?_|refine z_c ?_|refine z_d ?_|refine z_e ?_|refine z_f ?_|refine z_g ?_|refine z_h ?_|refine z_i ?_|refine z_j ?_|refine z_k ?_|refine z_l ?_|refine z_m (by omega) ?_|refine z_n (by omega) ?_|refine z_o (by omega) ?_|refine z_p (by omega) ?_|refine z_q (by omega) ?_|refine z_r (by omega) ?_|refine z_s (by omega) ?_|refine z_t (by omega) ?_|refine z_u (by omega) ?_|refine z_v (by omega) ?_|refine z_w (by omega) ?_|refine z_x (by omega) ?_|refine z_y (by omega) ?_|refine z_z (by omega) ?_|refine z_A ?_|refine z_B ?_|refine z_C ?_|refine z_D ?_|refine z_E ?_|refine z_F ?_|refine z_G ?_|refine z_H ?_|refine z_I ?_|refine z_J ?_|refine z_K (by omega) (by decide) ?_|refine z_L (by omega) (by decide) ?_|refine z_M (by omega) ?_|refine z_N (by omega) ?_|refine z_O (by omega) ?_|refine z_P ?_|refine z_Q ?_|refine z_R ?_|refine z_S ?_|refine z_T ?_|refine z_U (by decide) ?_|refine z_V (by decide) ?_)
      refine ln und55 ?_
      refine bi_gtr_c (fun h => ?_) (fun h => ?_)
      · (repeat with_reducible first|refine z_a ?_|refine z_b ?_|refine z_c ?_|refine z_d ?_|refine z_e ?_|refine z_f ?_|refine z_g ?_|refine z_h ?_|refine z_i ?_|refine z_j ?_|refine z_k ?_|refine z_l ?_|refine z_m (by omega) ?_|refine z_n (by omega) ?_|refine z_o (by omega) ?_|refine z_p (by omega) ?_|refine z_q (by omega) ?_|refine z_r (by omega) ?_|refine z_s (by omega) ?_|refine z_t (by omega) ?_|refine z_u (by omega) ?_|refine z_v (by omega) ?_|refine z_w (by omega) ?_|refine z_x (by omega) ?_|refine z_y (by omega) ?_|refine z_z (by omega) ?_|refine z_A ?_|refine z_B ?_|refine z_C ?_|refine z_D ?_|refine z_E ?_|refine z_F ?_|refine z_G ?_|refine z_H ?_|refine z_I ?_|refine z_J ?_|refine z_K (by omega) (by decide) ?_|refine z_L (by omega) (by decide) ?_|refine z_M (by omega) ?_|refine z_N (by omega) ?_|refine z_O (by omega) ?_|refine z_P ?_|refine z_Q ?_|refine z_R ?_|refine z_S ?_|refine z_T ?_|refine z_U (by decide) ?_|refine z_V (by decide) ?_)
        exact hJ1 _ _ ⟨by rw [decide_eq_true (.inl (by omega))], hb3⟩
      (repeat with_reducible first | refine fd l10 (by decide) ?_| refine ld one56 d10 ?_|refine z_a ?_|refine z_b ?_|refine z_c ?_|refine z_d ?_|refine z_e ?_|refine z_f ?_|refine z_g ?_|refine z_h ?_|refine z_i ?_|refine z_j ?_|refine z_k ?_|refine z_l ?_|refine z_m (by omega) ?_|refine z_n (by omega) ?_|refine z_o (by omega) ?_|refine z_p (by omega) ?_|refine z_q (by omega) ?_|refine z_r (by omega) ?_|refine z_s (by omega) ?_|refine z_t (by omega) ?_|refine z_u (by omega) ?_|refine z_v (by omega) ?_|refine z_w (by omega) ?_|refine z_x (by omega) ?_|refine z_y (by omega) ?_|refine z_z (by omega) ?_|refine z_A ?_|refine z_B ?_|refine z_C ?_|refine z_D ?_|refine z_E ?_|refine z_F ?_|refine z_G ?_|refine z_H ?_|refine z_I ?_|refine z_J ?_|refine z_K (by omega) (by decide) ?_|refine z_L (by omega) (by decide) ?_|refine z_M (by omega) ?_|refine z_N (by omega) ?_|refine z_O (by omega) ?_|refine z_P ?_|refine z_Q ?_|refine z_R ?_|refine z_S ?_|refine z_T ?_|refine z_U (by decide) ?_|refine z_V (by decide) ?_)
      refine ln und56 ?_
      refine bi_gtr_c (fun h' => ?_) (fun h' => ?_)
      · (repeat with_reducible first|refine z_a ?_|refine z_b ?_|refine z_c ?_|refine z_d ?_|refine z_e ?_|refine z_f ?_|refine z_g ?_|refine z_h ?_|refine z_i ?_|refine z_j ?_|refine z_k ?_|refine z_l ?_|refine z_m (by omega) ?_|refine z_n (by omega) ?_|refine z_o (by omega) ?_|refine z_p (by omega) ?_|refine z_q (by omega) ?_|refine z_r (by omega) ?_|refine z_s (by omega) ?_|refine z_t (by omega) ?_|refine z_u (by omega) ?_|refine z_v (by omega) ?_|refine z_w (by omega) ?_|refine z_x (by omega) ?_|refine z_y (by omega) ?_|refine z_z (by omega) ?_|refine z_A ?_|refine z_B ?_|refine z_C ?_|refine z_D ?_|refine z_E ?_|refine z_F ?_|refine z_G ?_|refine z_H ?_|refine z_I ?_|refine z_J ?_|refine z_K (by omega) (by decide) ?_|refine z_L (by omega) (by decide) ?_|refine z_M (by omega) ?_|refine z_N (by omega) ?_|refine z_O (by omega) ?_|refine z_P ?_|refine z_Q ?_|refine z_R ?_|refine z_S ?_|refine z_T ?_|refine z_U (by decide) ?_|refine z_V (by decide) ?_)
        exact hJ1 _ _ ⟨by rw [decide_eq_true (.inr (.inl (by omega)))], hb3⟩
      (repeat with_reducible first|refine z_a ?_|refine z_b ?_|refine z_c ?_|refine z_d ?_|refine z_e ?_|refine z_f ?_|refine z_g ?_|refine z_h ?_|refine z_i ?_|refine z_j ?_|refine z_k ?_|refine z_l ?_|refine z_m (by omega) ?_|refine z_n (by omega) ?_|refine z_o (by omega) ?_|refine z_p (by omega) ?_|refine z_q (by omega) ?_|refine z_r (by omega) ?_|refine z_s (by omega) ?_|refine z_t (by omega) ?_|refine z_u (by omega) ?_|refine z_v (by omega) ?_|refine z_w (by omega) ?_|refine z_x (by omega) ?_|refine z_y (by omega) ?_|refine z_z (by omega) ?_|refine z_A ?_|refine z_B ?_|refine z_C ?_|refine z_D ?_|refine z_E ?_|refine z_F ?_|refine z_G ?_|refine z_H ?_|refine z_I ?_|refine z_J ?_|refine z_K (by omega) (by decide) ?_|refine z_L (by omega) (by decide) ?_|refine z_M (by omega) ?_|refine z_N (by omega) ?_|refine z_O (by omega) ?_|refine z_P ?_|refine z_Q ?_|refine z_R ?_|refine z_S ?_|refine z_T ?_|refine z_U (by decide) ?_|refine z_V (by decide) ?_)
      refine ldA agg58 hL3 (by exact sz58) ?_
      refine (bulk_spec L _ _ ps is w3 (keeps_Pairs _ _ _ _ hb3 hp1) (keeps_Intents _ _ _ _ hb3 hq1)).mono ?_
      rintro _ w4 ⟨rfl, hb4⟩
      refine bi_gtr ?_
      refine hJ1 _ _ ⟨?_, below_then hb3 hb4⟩
      congr 2
      apply decide_eq_decide.2
      omega
    rintro _ w4 ⟨rfl, hb4⟩
    dsimp only [List.headD_cons, List.tail_cons]
    refine CondP.dec (fun hbig => ?_) (fun hbig => ?_)
    · refine ⟨⟨⟨#[]⟩, ?_⟩, hfin hb4⟩
      rw [packErr, if_neg (by rw [hgood]; simp), if_pos hbig]; rfl
    have hps : ps.length ≤ 256 := by omega
    have his : is.length ≤ 256 := by omega
    have hbulk : bulkL L ps is ≤ 65536 := by omega
    obtain ⟨hbP, hisz⟩ := bulkI_texts is _ hbulk
    obtain ⟨hbT, hpsz⟩ := bulkP_texts ps _ hbP
    have htsz : ∀ s ∈ L.texts, s.size ≤ 65536 := by
      obtain ⟨e1, e2⟩ := addB_text _ _ hbT
      obtain ⟨e3, e4⟩ := addB_text _ _ e2
      obtain ⟨e5, _⟩ := addB_text _ _ e4
      intro s hs
      simp only [Let.texts, List.mem_cons, List.not_mem_nil, or_false] at hs
      rcases hs with rfl | rfl | rfl <;> assumption
    clear hb3 hb2 c10 hL2 hn2 hfn
    have letter : ∀ {w'}, Below w1.heap.size w1 w' → Blk w' g 58 (L.cells (.slice A ps.length cA) (.slice A' is.length cA')) := fun h => hL.below' h
    have n1 := num_le6 L.kind.toNat (by omega)
    have d0 : w4.cell? ⟨g, 0, none⟩ = some (.int .i64 L.kind) := (letter hb4).cell 0
    (repeat with_reducible first | refine fd l0 (by decide) ?_| refine ld one3 d0 ?_|refine z_a ?_|refine z_b ?_|refine z_c ?_|refine z_d ?_|refine z_e ?_|refine z_f ?_|refine z_g ?_|refine z_h ?_|refine z_i ?_|refine z_j ?_|refine z_k ?_|refine z_l ?_|refine z_m (by omega) ?_|refine z_n (by omega) ?_|refine z_o (by omega) ?_|refine z_p (by omega) ?_|refine z_q (by omega) ?_|refine z_r (by omega) ?_|refine z_s (by omega) ?_|refine z_t (by omega) ?_|refine z_u (by omega) ?_|refine z_v (by omega) ?_|refine z_w (by omega) ?_|refine z_x (by omega) ?_|refine z_y (by omega) ?_|refine z_z (by omega) ?_|refine z_A ?_|refine z_B ?_|refine z_C ?_|refine z_D ?_|refine z_E ?_|refine z_F ?_|refine z_G ?_|refine z_H ?_|refine z_I ?_|refine z_J ?_|refine z_K (by omega) (by decide) ?_|refine z_L (by omega) (by decide) ?_|refine z_M (by omega) ?_|refine z_N (by omega) ?_|refine z_O (by omega) ?_|refine z_P ?_|refine z_Q ?_|refine z_R ?_|refine z_S ?_|refine z_T ?_|refine z_U (by decide) ?_|refine z_V (by decide) ?_)
    rw [show L.kind = ((L.kind.toNat : Nat) : Int) from by omega]
    refine (Num_spec L.kind.toNat (by omega) w4).mono ?_
    rintro o5 w5 ⟨ho5, hf5, hb5⟩
    have hb5' := below_then hb4 hb5
    have hs4 := hb4.size
    refine (numbers_spec g w5).mono ?_
    rintro vn w6 ⟨hn6, hfn6, hb6⟩
    have hb6' := below_then hb5' hb6
    obtain ⟨An, cn, rfl⟩ := hn6.slice
    rw [hnl]
    refine ln und103 ?_
    refine LoopP.inv2 (fun o i w' => ∃ k : Nat, k ≤ 6 ∧ i = .int .i64 k ∧ Own 5 w' o ((Pack.num L.kind.toNat ++ numsB (L.nums.take k)).map u8) ∧ Fresh w1.heap.size o ∧ Own 102 w' (.slice An (ptrs g [1, 2, 3, 4, 5, 6]).length cn) (ptrs g [1, 2, 3, 4, 5, 6]) ∧ ((Value.slice An (ptrs g [1, 2, 3, 4, 5, 6]).length cn).ownBlock = none ∨ (Value.slice An (ptrs g [1, 2, 3, 4, 5, 6]).length cn).ownBlock ≠ o.ownBlock) ∧ Below w1.heap.size w1 w') (fun _ i _ => 6 - (intOf i).toNat)
      ⟨0, by omega, rfl, by simpa [numsB] using ho5.below hb6, fun k hk => Nat.le_trans hs4 (hf5 k hk), hn6, ?_, hb6'⟩ ?_
    · cases hq : (Value.slice An (ptrs g [1, 2, 3, 4, 5, 6]).length cn).ownBlock with
      | none => exact .inl rfl
      | some k =>
        right
        intro he
        have := ho5.ownLt he.symm
        have := hfn6 k hq
        omega
    rintro o _ w7 ⟨k, hk, rfl, ho7, hf7, hn7, hne7, hb7⟩ J hJ
    dsimp only [List.headD_cons, List.tail_cons]
    refine bi_lss_c (fun h => ?_) (fun h => ?_)
    · have hk6 : k < 6 := by omega
      have hkl : k < L.nums.length := hk6
      obtain ⟨hz0, hz1⟩ := hnums _ (List.getElem_mem hkl)
      obtain ⟨a, rfl, hca⟩ := Rd.at hn7.rd k (by omega)
      have hcell : w7.cell? ⟨g, ([1, 2, 3, 4, 5, 6] : List Nat)[k]'(by simpa using hk6), none⟩ = some (.int .i64 L.nums[k]) := by
        obtain rfl | rfl | rfl | rfl | rfl | rfl : k = 0 ∨ k = 1 ∨ k = 2 ∨ k = 3 ∨ k = 4 ∨ k = 5 := by omega
        · exact (letter hb7).cell 1
        · exact (letter hb7).cell 2
        · exact (letter hb7).cell 3
        · exact (letter hb7).cell 4
        · exact (letter hb7).cell 5
        · exact (letter hb7).cell 6
      have hca' : w7.cell? (a.add k) = some (.pointer (some ⟨g, ([1, 2, 3, 4, 5, 6] : List Nat)[k]'(by simpa using hk6), none⟩)) := by rw [hca]; simp only [ptrs, List.getElem_map]
      have e := map_take_succ (fun n : Int => Pack.num n.toNat) L.nums k hkl
      have b1 := flat_bound (fun n : Int => Pack.num n.toNat) 6 (L.nums.take k) (fun n hn => num_le6 _ (by have := hnums n (List.mem_of_mem_take hn); omega))
      have b2 := num_le6 L.nums[k].toNat (by omega)
      have hlt : (L.nums.take k).length = k := by rw [List.length_take]; omega
      (repeat with_reducible first | refine ix1 und103 sz102 hk6 ?_| refine ld one102 hca' ?_| refine ld one3 hcell ?_|refine z_a ?_|refine z_b ?_|refine z_c ?_|refine z_d ?_|refine z_e ?_|refine z_f ?_|refine z_g ?_|refine z_h ?_|refine z_i ?_|refine z_j ?_|refine z_k ?_|refine z_l ?_|refine z_m (by omega) ?_|refine z_n (by omega) ?_|refine z_o (by omega) ?_|refine z_p (by omega) ?_|refine z_q (by omega) ?_|refine z_r (by omega) ?_|refine z_s (by omega) ?_|refine z_t (by omega) ?_|refine z_u (by omega) ?_|refine z_v (by omega) ?_|refine z_w (by omega) ?_|refine z_x (by omega) ?_|refine z_y (by omega) ?_|refine z_z (by omega) ?_|refine z_A ?_|refine z_B ?_|refine z_C ?_|refine z_D ?_|refine z_E ?_|refine z_F ?_|refine z_G ?_|refine z_H ?_|refine z_I ?_|refine z_J ?_|refine z_K (by omega) (by decide) ?_|refine z_L (by omega) (by decide) ?_|refine z_M (by omega) ?_|refine z_N (by omega) ?_|refine z_O (by omega) ?_|refine z_P ?_|refine z_Q ?_|refine z_R ?_|refine z_S ?_|refine z_T ?_|refine z_U (by decide) ?_|refine z_V (by decide) ?_)
      rw [show L.nums[k] = ((L.nums[k].toNat : Nat) : Int) from by omega]
      refine (Num_spec L.nums[k].toNat (by omega) w7).mono ?_
      rintro o8 w8 ⟨ho8, hf8, hb8⟩
      have hb8' := below_then hb7 hb8
      refine apF w1.heap.size undB inf5 (by rfl) (by decide) (ho7.below hb8) hf7 hb8'.size ho8.rd (u8_one _) (by simp only [List.length_map, List.length_append, numsB]; omega) ?_
      intro o9 w9 ho9 hf9 hb9 hoth
      obtain ⟨hn9, hne9⟩ := hoth _ _ _ (hn7.below hb8) hne7
      (repeat with_reducible first|refine z_a ?_|refine z_b ?_|refine z_c ?_|refine z_d ?_|refine z_e ?_|refine z_f ?_|refine z_g ?_|refine z_h ?_|refine z_i ?_|refine z_j ?_|refine z_k ?_|refine z_l ?_|refine z_m (by omega) ?_|refine z_n (by omega) ?_|refine z_o (by omega) ?_|refine z_p (by omega) ?_|refine z_q (by omega) ?_|refine z_r (by omega) ?_|refine z_s (by omega) ?_|refine z_t (by omega) ?_|refine z_u (by omega) ?_|refine z_v (by omega) ?_|refine z_w (by omega) ?_|refine z_x (by omega) ?_|refine z_y (by omega) ?_|refine z_z (by omega) ?_|refine z_A ?_|refine z_B ?_|refine z_C ?_|refine z_D ?_|refine z_E ?_|refine z_F ?_|refine z_G ?_|refine z_H ?_|refine z_I ?_|refine z_J ?_|refine z_K (by omega) (by decide) ?_|refine z_L (by omega) (by decide) ?_|refine z_M (by omega) ?_|refine z_N (by omega) ?_|refine z_O (by omega) ?_|refine z_P ?_|refine z_Q ?_|refine z_R ?_|refine z_S ?_|refine z_T ?_|refine z_U (by decide) ?_|refine z_V (by decide) ?_)
      refine hJ _ _ _ ⟨k + 1, by omega, by simp, ?_, hf9, hn9, hne9, hb8'.trans hb9⟩ (by simp [intOf]; omega)
      rw [← List.map_append, List.append_assoc] at ho9
      rw [numsB, e]
      exact ho9
    have hk6 : k = 6 := by omega
    subst hk6
    clear hJ
    have ht6 : L.nums.take 6 = L.nums := rfl
    rw [ht6] at ho7
    have bN := flat_bound (fun n : Int => Pack.num n.toNat) 6 L.nums (fun n hn => num_le6 _ (by have := hnums n hn; omega))
    have hnl6 : L.nums.length = 6 := rfl
    -- the code, the flag
    have hdr : Below w7.heap.size w7 w7.drew := (Below.refl _ _).drew
    have hbd := below_then hb7 hdr
    have e11 : ∀ w', Blk w' g 58 (L.cells (.slice A ps.length cA) (.slice A' is.length cA')) → w'.cell? ⟨g, 11, none⟩ = some (.int .i64 L.code) := fun w' h => h.cell 11
    have e12 : ∀ w', Blk w' g 58 (L.cells (.slice A ps.length cA) (.slice A' is.length cA')) → w'.cell? ⟨g, 12, none⟩ = some (.bool L.yes) := fun w' h => h.cell 12
    (repeat with_reducible first|refine z_a ?_|refine z_b ?_|refine z_c ?_|refine z_d ?_|refine z_e ?_|refine z_f ?_|refine z_g ?_|refine z_h ?_|refine z_i ?_|refine z_j ?_|refine z_k ?_|refine z_l ?_|refine z_m (by omega) ?_|refine z_n (by omega) ?_|refine z_o (by omega) ?_|refine z_p (by omega) ?_|refine z_q (by omega) ?_|refine z_r (by omega) ?_|refine z_s (by omega) ?_|refine z_t (by omega) ?_|refine z_u (by omega) ?_|refine z_v (by omega) ?_|refine z_w (by omega) ?_|refine z_x (by omega) ?_|refine z_y (by omega) ?_|refine z_z (by omega) ?_|refine z_A ?_|refine z_B ?_|refine z_C ?_|refine z_D ?_|refine z_E ?_|refine z_F ?_|refine z_G ?_|refine z_H ?_|refine z_I ?_|refine z_J ?_|refine z_K (by omega) (by decide) ?_|refine z_L (by omega) (by decide) ?_|refine z_M (by omega) ?_|refine z_N (by omega) ?_|refine z_O (by omega) ?_|refine z_P ?_|refine z_Q ?_|refine z_R ?_|refine z_S ?_|refine z_T ?_|refine z_U (by decide) ?_|refine z_V (by decide) ?_)
    refine draw (fun w' => Blk w' g 58 (L.cells (.slice A ps.length cA) (.slice A' is.length cA'))) (letter hbd) ?_
    (repeat with_reducible first | refine yfd l11 (by decide) ?_| refine yl1 one25 e11 ?_| refine yfd l12 (by decide) ?_| refine yl1 one4 e12 ?_|refine z_W ?_|refine z_a ?_|refine z_b ?_|refine z_c ?_|refine z_d ?_|refine z_e ?_|refine z_f ?_|refine z_g ?_|refine z_h ?_|refine z_i ?_|refine z_j ?_|refine z_k ?_|refine z_l ?_|refine z_X (by omega) ?_|refine z_Y (by omega) ?_|refine z_Z (by omega) ?_|refine z_a1 (by omega) ?_|refine z_b1 (by omega) ?_|refine z_c1 (by omega) ?_|refine z_d1 (by omega) ?_|refine z_e1 (by omega) ?_|refine z_f1 (by omega) ?_|refine z_g1 (by omega) ?_|refine z_h1 (by omega) ?_|refine z_i1 (by omega) ?_|refine z_j1 (by omega) ?_|refine z_k1 (by omega) ?_|refine z_l1 ?_|refine z_m1 ?_|refine z_n1 ?_|refine z_o1 ?_|refine z_p1 ?_|refine z_q1 ?_|refine z_r1 ?_|refine z_s1 ?_|refine z_t1 ?_|refine z_u1 ?_|refine z_v1 (by omega) (by decide) ?_|refine z_w1 (by omega) (by decide) ?_|refine z_x1 (by omega) ?_|refine z_y1 (by omega) ?_|refine z_z1 (by omega) ?_|refine z_A1 ?_|refine z_B1 ?_|refine z_C1 ?_|refine z_D1 ?_|refine z_E1 ?_|refine z_F1 (by decide) ?_|refine z_G1 (by decide) ?_)
    refine act ?_
    rw [show L.code = ((L.code.toNat : Nat) : Int) from by omega]
    have m1 := num_le6 L.code.toNat (by omega)
    have m2 := num_le6 (bitN L.yes) (by unfold bitN; split <;> omega)
    refine (Num_spec L.code.toNat (by omega) w7.drew).mono ?_
    rintro o8 w8 ⟨ho8, hf8, hb8⟩
    have hb8' := below_then hbd hb8
    refine ⟨_, letter hb8', fun _ h => h, ?_⟩
    refine act ?_
    refine (bit_spec L.yes w8).mono ?_
    rintro _ _ ⟨rfl, rfl⟩
    refine ⟨_, letter hb8', fun _ h => h, ?_⟩
    refine act ?_
    refine (Num_spec (bitN L.yes) (by unfold bitN; split <;> omega) w8).mono ?_
    rintro o9 w9 ⟨ho9, hf9, hb9⟩
    have hb9' := below_then hb8' hb9
    refine ⟨_, letter hb9', fun _ h => h, ?_⟩
    have ho7' := (ho7.below hdr).below (below_then hb8 hb9)
    have turned : ∀ {o : Value} {wa wb : World}, Fresh w1.heap.size o → Below w1.heap.size w1 wa → Turns (fun k => o.ownBlock = some k) wa wb → Below w1.heap.size w1 wb := fun hf h hT => h.trans (hT.below h.size fun k hk he => by have := hf k he; omega)
    refine join2 ho7' hf7 hb9'.size (ho8.below hb9) ho9 (by omega) (by omega) (by simp only [List.length_append, numsB]; omega) (fun w' hT => letter (turned hf7 hb9' hT)) ?_
    intro o10 w10 ho10 hf10 hT10 _
    have hb10 := turned hf7 hb9' hT10
    have lenA : (Pack.num L.kind.toNat ++ numsB L.nums ++ (Pack.num L.code.toNat ++ Pack.num (bitN L.yes))).length ≤ 100 := by
      simp only [List.length_append, numsB]; omega
    generalize hA : Pack.num L.kind.toNat ++ numsB L.nums ++ (Pack.num L.code.toNat ++ Pack.num (bitN L.yes)) = bA at *
    clear ho7 ho7' hf7 hn7 hne7 hb7 hb8 hb9 hb8' hb9' ho8 ho9 hf8 hf9 hT10 hn6 hfn6 hb6 hb6' ho5 hf5 hb5 hb5' hdr hbd
    -- the texts
    refine (texts_spec g w10).mono ?_
    rintro vt w11 ⟨ht11, hft11, hb11⟩
    have hb11' := below_then hb10 hb11
    have htl : (ptrs g [7, 8, 13]).length = 3 := by simp [ptrs]
    obtain ⟨At, ct, rfl⟩ := ht11.slice
    rw [htl]
    refine ln und145 ?_
    refine LoopP.inv2 (fun o i w' => ∃ k : Nat, k ≤ 3 ∧ i = .int .i64 k ∧ Own 5 w' o ((bA ++ textsB (L.texts.take k)).map u8) ∧ Fresh w1.heap.size o ∧ Own 147 w' (.slice At (ptrs g [7, 8, 13]).length ct) (ptrs g [7, 8, 13]) ∧ ((Value.slice At (ptrs g [7, 8, 13]).length ct).ownBlock = none ∨ (Value.slice At (ptrs g [7, 8, 13]).length ct).ownBlock ≠ o.ownBlock) ∧ Below w1.heap.size w1 w') (fun _ i _ => 3 - (intOf i).toNat)
      ⟨0, by omega, rfl, by simpa [textsB] using ho10.below hb11, hf10, ht11, ?_, hb11'⟩ ?_
    · cases hq : (Value.slice At (ptrs g [7, 8, 13]).length ct).ownBlock with
      | none => exact .inl rfl
      | some k =>
        right
        intro he
        have := ho10.ownLt he.symm
        have := hft11 k hq
        omega
    rintro o _ w12 ⟨k, hk, rfl, ho12, hf12, ht12, hne12, hb12⟩ J hJ
    dsimp only [List.headD_cons, List.tail_cons]
    refine bi_lss_c (fun h => ?_) (fun h => ?_)
    · have hk3 : k < 3 := by omega
      have hkl : k < L.texts.length := hk3
      obtain ⟨a, rfl, hca⟩ := Rd.at ht12.rd k (by omega)
      have hcell : w12.cell? ⟨g, ([7, 8, 13] : List Nat)[k]'(by simpa using hk3), none⟩ = some (.string L.texts[k]) := by
        obtain rfl | rfl | rfl : k = 0 ∨ k = 1 ∨ k = 2 := by omega
        · exact (letter hb12).cell 7
        · exact (letter hb12).cell 8
        · exact (letter hb12).cell 13
      have hca' : w12.cell? (a.add k) = some (.pointer (some ⟨g, ([7, 8, 13] : List Nat)[k]'(by simpa using hk3), none⟩)) := by rw [hca]; simp only [ptrs, List.getElem_map]
      have e := map_take_succ Pack.text L.texts k hkl
      have b1 := flat_bound Pack.text 65542 (L.texts.take k) (fun s hs => text_le s (htsz s (List.mem_of_mem_take hs)))
      have hsz := htsz _ (List.getElem_mem hkl)
      have b2 := text_le L.texts[k] hsz
      have hlt : (L.texts.take k).length = k := by rw [List.length_take]; show min k 3 = k; omega
      (repeat with_reducible first | refine ix1 und145 sz147 hk3 ?_| refine ld one147 hca' ?_| refine ld one9 hcell ?_|refine z_a ?_|refine z_b ?_|refine z_c ?_|refine z_d ?_|refine z_e ?_|refine z_f ?_|refine z_g ?_|refine z_h ?_|refine z_i ?_|refine z_j ?_|refine z_k ?_|refine z_l ?_|refine z_m (by omega) ?_|refine z_n (by omega) ?_|refine z_o (by omega) ?_|refine z_p (by omega) ?_|refine z_q (by omega) ?_|refine z_r (by omega) ?_|refine z_s (by omega) ?_|refine z_t (by omega) ?_|refine z_u (by omega) ?_|refine z_v (by omega) ?_|refine z_w (by omega) ?_|refine z_x (by omega) ?_|refine z_y (by omega) ?_|refine z_z (by omega) ?_|refine z_A ?_|refine z_B ?_|refine z_C ?_|refine z_D ?_|refine z_E ?_|refine z_F ?_|refine z_G ?_|refine z_H ?_|refine z_I ?_|refine z_J ?_|refine z_K (by omega) (by decide) ?_|refine z_L (by omega) (by decide) ?_|refine z_M (by omega) ?_|refine z_N (by omega) ?_|refine z_O (by omega) ?_|refine z_P ?_|refine z_Q ?_|refine z_R ?_|refine z_S ?_|refine z_T ?_|refine z_U (by decide) ?_|refine z_V (by decide) ?_)
      refine (Text_spec L.texts[k] (by omega) w12).mono ?_
      rintro o13 w13 ⟨ho13, hb13⟩
      have hb13' := below_then hb12 hb13
      refine apF w1.heap.size undB inf5 (by rfl) (by decide) (ho12.below hb13) hf12 hb13'.size ho13.rd (u8_one _) (by simp only [List.length_map, List.length_append, textsB]; omega) ?_
      intro o14 w14 ho14 hf14 hb14 hoth
      obtain ⟨ht14, hne14⟩ := hoth _ _ _ (ht12.below hb13) hne12
      (repeat with_reducible first|refine z_a ?_|refine z_b ?_|refine z_c ?_|refine z_d ?_|refine z_e ?_|refine z_f ?_|refine z_g ?_|refine z_h ?_|refine z_i ?_|refine z_j ?_|refine z_k ?_|refine z_l ?_|refine z_m (by omega) ?_|refine z_n (by omega) ?_|refine z_o (by omega) ?_|refine z_p (by omega) ?_|refine z_q (by omega) ?_|refine z_r (by omega) ?_|refine z_s (by omega) ?_|refine z_t (by omega) ?_|refine z_u (by omega) ?_|refine z_v (by omega) ?_|refine z_w (by omega) ?_|refine z_x (by omega) ?_|refine z_y (by omega) ?_|refine z_z (by omega) ?_|refine z_A ?_|refine z_B ?_|refine z_C ?_|refine z_D ?_|refine z_E ?_|refine z_F ?_|refine z_G ?_|refine z_H ?_|refine z_I ?_|refine z_J ?_|refine z_K (by omega) (by decide) ?_|refine z_L (by omega) (by decide) ?_|refine z_M (by omega) ?_|refine z_N (by omega) ?_|refine z_O (by omega) ?_|refine z_P ?_|refine z_Q ?_|refine z_R ?_|refine z_S ?_|refine z_T ?_|refine z_U (by decide) ?_|refine z_V (by decide) ?_)
      refine hJ _ _ _ ⟨k + 1, by omega, by simp, ?_, hf14, ht14, hne14, hb13'.trans hb14⟩ (by simp [intOf]; omega)
      rw [← List.map_append, List.append_assoc] at ho14
      rw [textsB, e]
      exact ho14
    have hk3 : k = 3 := by omega
    subst hk3
    clear hJ
    have ht3 : L.texts.take 3 = L.texts := rfl
    rw [ht3] at ho12
    have bT := flat_bound Pack.text 65542 L.texts (fun s hs => text_le s (htsz s hs))
    have htl3 : L.texts.length = 3 := rfl
    have lenB : (bA ++ textsB L.texts).length ≤ 300000 := by simp only [List.length_append, textsB]; omega
    generalize hB : bA ++ textsB L.texts = bB at *
    -- the pairs
    have d9 : w12.cell? ⟨g, 9, none⟩ = some (.slice A ps.length cA) := (letter hb12).cell 9
    (repeat with_reducible first | refine fd l9 (by decide) ?_| refine ld one55 d9 ?_|refine z_a ?_|refine z_b ?_|refine z_c ?_|refine z_d ?_|refine z_e ?_|refine z_f ?_|refine z_g ?_|refine z_h ?_|refine z_i ?_|refine z_j ?_|refine z_k ?_|refine z_l ?_|refine z_m (by omega) ?_|refine z_n (by omega) ?_|refine z_o (by omega) ?_|refine z_p (by omega) ?_|refine z_q (by omega) ?_|refine z_r (by omega) ?_|refine z_s (by omega) ?_|refine z_t (by omega) ?_|refine z_u (by omega) ?_|refine z_v (by omega) ?_|refine z_w (by omega) ?_|refine z_x (by omega) ?_|refine z_y (by omega) ?_|refine z_z (by omega) ?_|refine z_A ?_|refine z_B ?_|refine z_C ?_|refine z_D ?_|refine z_E ?_|refine z_F ?_|refine z_G ?_|refine z_H ?_|refine z_I ?_|refine z_J ?_|refine z_K (by omega) (by decide) ?_|refine z_L (by omega) (by decide) ?_|refine z_M (by omega) ?_|refine z_N (by omega) ?_|refine z_O (by omega) ?_|refine z_P ?_|refine z_Q ?_|refine z_R ?_|refine z_S ?_|refine z_T ?_|refine z_U (by decide) ?_|refine z_V (by decide) ?_)
    refine ln und55 ?_
    have mP := num_le6 ps.length (by omega)
    refine (Num_spec ps.length (by omega) w12).mono ?_
    rintro o13 w13 ⟨ho13, hf13, hb13⟩
    have hb13' := below_then hb12 hb13
    refine apF w1.heap.size undB inf5 (by rfl) (by decide) (ho12.below hb13) hf12 hb13'.size ho13.rd (u8_one _) (by simp only [List.length_map]; omega) ?_
    intro o14 w14 ho14 hf14 hb14 _
    have hb14' := hb13'.trans hb14
    rw [← List.map_append] at ho14
    have lenC : (bB ++ Pack.num ps.length).length ≤ 300010 := by simp only [List.length_append]; omega
    generalize hC : bB ++ Pack.num ps.length = bC at *
    have d9' : w14.cell? ⟨g, 9, none⟩ = some (.slice A ps.length cA) := (letter hb14').cell 9
    (repeat with_reducible first | refine fd l9 (by decide) ?_| refine ld one55 d9' ?_|refine z_a ?_|refine z_b ?_|refine z_c ?_|refine z_d ?_|refine z_e ?_|refine z_f ?_|refine z_g ?_|refine z_h ?_|refine z_i ?_|refine z_j ?_|refine z_k ?_|refine z_l ?_|refine z_m (by omega) ?_|refine z_n (by omega) ?_|refine z_o (by omega) ?_|refine z_p (by omega) ?_|refine z_q (by omega) ?_|refine z_r (by omega) ?_|refine z_s (by omega) ?_|refine z_t (by omega) ?_|refine z_u (by omega) ?_|refine z_v (by omega) ?_|refine z_w (by omega) ?_|refine z_x (by omega) ?_|refine z_y (by omega) ?_|refine z_z (by omega) ?_|refine z_A ?_|refine z_B ?_|refine z_C ?_|refine z_D ?_|refine z_E ?_|refine z_F ?_|refine z_G ?_|refine z_H ?_|refine z_I ?_|refine z_J ?_|refine z_K (by omega) (by decide) ?_|refine z_L (by omega) (by decide) ?_|refine z_M (by omega) ?_|refine z_N (by omega) ?_|refine z_O (by omega) ?_|refine z_P ?_|refine z_Q ?_|refine z_R ?_|refine z_S ?_|refine z_T ?_|refine z_U (by decide) ?_|refine z_V (by decide) ?_)
    refine ln und55 ?_
    clear ht12 hne12 ho12 hf12 hb12 hb13 hb13' hb14 ho13 hf13 ht11 hft11 hb11 hb11' ho10 hf10 hb10 d9 d9'
    refine LoopP.inv2 (fun o i w' => ∃ k : Nat, k ≤ ps.length ∧ i = .int .i64 k ∧ Own 5 w' o ((bC ++ pairsB (ps.take k)).map u8) ∧ Fresh w1.heap.size o ∧ Below w1.heap.size w1 w') (fun _ i _ => ps.length - (intOf i).toNat)
      ⟨0, by omega, rfl, by simpa [pairsB] using ho14, hf14, hb14'⟩ ?_
    rintro o _ w15 ⟨k, hk, rfl, ho15, hf15, hb15⟩ J hJ
    dsimp only [List.headD_cons, List.tail_cons]
    have bP := flat_bound (fun p : ByteArray × ByteArray × Unit => Pack.text p.1 ++ Pack.text p.2.1) 131084 (ps.take k) (fun p hp => by
      obtain ⟨h1, h2⟩ := hpsz p (List.mem_of_mem_take hp)
      have := text_le _ h1; have := text_le _ h2
      rw [List.length_append]; omega)
    have hltP : (ps.take k).length = k := by rw [List.length_take]; omega
    refine bi_lss_c (fun h => ?_) (fun h => ?_)
    · have hkp : k < ps.length := by omega
      obtain ⟨a, us, rfl, hus, hcell, hrd⟩ := rRow.at (keeps_Pairs _ _ _ _ hb15 hp1) k hkp
      obtain ⟨rfl, hz1, hz2⟩ := pair_cells hrd
      obtain ⟨hs1, hs2⟩ := hpsz _ (List.getElem_mem hkp)
      have e := map_take_succ (fun p : ByteArray × ByteArray × Unit => Pack.text p.1 ++ Pack.text p.2.1) ps k hkp
      have t1 := text_le _ hs1
      have t2 := text_le _ hs2
      (repeat with_reducible first|refine z_a ?_|refine z_b ?_|refine z_c ?_|refine z_d ?_|refine z_e ?_|refine z_f ?_|refine z_g ?_|refine z_h ?_|refine z_i ?_|refine z_j ?_|refine z_k ?_|refine z_l ?_|refine z_m (by omega) ?_|refine z_n (by omega) ?_|refine z_o (by omega) ?_|refine z_p (by omega) ?_|refine z_q (by omega) ?_|refine z_r (by omega) ?_|refine z_s (by omega) ?_|refine z_t (by omega) ?_|refine z_u (by omega) ?_|refine z_v (by omega) ?_|refine z_w (by omega) ?_|refine z_x (by omega) ?_|refine z_y (by omega) ?_|refine z_z (by omega) ?_|refine z_A ?_|refine z_B ?_|refine z_C ?_|refine z_D ?_|refine z_E ?_|refine z_F ?_|refine z_G ?_|refine z_H ?_|refine z_I ?_|refine z_J ?_|refine z_K (by omega) (by decide) ?_|refine z_L (by omega) (by decide) ?_|refine z_M (by omega) ?_|refine z_N (by omega) ?_|refine z_O (by omega) ?_|refine z_P ?_|refine z_Q ?_|refine z_R ?_|refine z_S ?_|refine z_T ?_|refine z_U (by decide) ?_|refine z_V (by decide) ?_)
      refine ix und55 sz64 (by omega) (by omega) ?_
      rw [Int.toNat_natCast]
      refine ldR agg64 hcell (by rw [sz64]; rfl) ?_
      refine al z64 ?_
      have hV0 : Blk (w15.alloc (.cells (Value.agg #[.string ⟨#[]⟩, .string ⟨#[]⟩]).cells 64)) w15.heap.size 64 #[.string ⟨#[]⟩, .string ⟨#[]⟩] := Blk.new w15 64 _
      have hav := (Below.refl w15.heap.size w15).alloc (Nat.le_refl _) (.cells (Value.agg #[.string ⟨#[]⟩, .string ⟨#[]⟩]).cells 64)
      refine stA hV0 (by exact sz64) (by rfl) (by simp [Value.oneCell']) ?_
      have hV := hV0.row #[.string ps[k].1, .string ps[k].2.1]
      have hb16 := below_setRow hav (Nat.le_refl _) #[.string ps[k].1, .string ps[k].2.1]
      rw [show [Value.string ps[k].1, .string ps[k].2.1].toArray = #[.string ps[k].1, .string ps[k].2.1] from rfl]
      generalize (w15.alloc (.cells (Value.agg #[.string ⟨#[]⟩, .string ⟨#[]⟩]).cells 64)).setRow w15.heap.size #[.string ps[k].1, .string ps[k].2.1] = w16 at *
      have hb16' := below_then hb15 hb16
      have hdr : Below w16.heap.size w16 w16.drew := (Below.refl _ _).drew
      have e0 : ∀ w', Below w16.heap.size w16 w' → w'.cell? ⟨w15.heap.size, 0, none⟩ = some (.string ps[k].1) := fun w' h => (hV.below' h).cell 0
      have e1 : ∀ w', Below w16.heap.size w16 w' → w'.cell? ⟨w15.heap.size, 1, none⟩ = some (.string ps[k].2.1) := fun w' h => (hV.below' h).cell 1
      refine draw (fun w' => Blk w' w15.heap.size 64 #[.string ps[k].1, .string ps[k].2.1]) (hV.below' hdr) ?_
      have e0 : ∀ w', Blk w' w15.heap.size 64 #[.string ps[k].1, .string ps[k].2.1] → w'.cell? ⟨w15.heap.size, 0, none⟩ = some (.string ps[k].1) := fun w' h => h.cell 0
      have e1 : ∀ w', Blk w' w15.heap.size 64 #[.string ps[k].1, .string ps[k].2.1] → w'.cell? ⟨w15.heap.size, 1, none⟩ = some (.string ps[k].2.1) := fun w' h => h.cell 1
      (repeat with_reducible first | refine yfd p0' (by decide) ?_| refine yl1 one9 e0 ?_| refine yfd p1' (by decide) ?_| refine yl1 one9 e1 ?_|refine z_W ?_|refine z_a ?_|refine z_b ?_|refine z_c ?_|refine z_d ?_|refine z_e ?_|refine z_f ?_|refine z_g ?_|refine z_h ?_|refine z_i ?_|refine z_j ?_|refine z_k ?_|refine z_l ?_|refine z_X (by omega) ?_|refine z_Y (by omega) ?_|refine z_Z (by omega) ?_|refine z_a1 (by omega) ?_|refine z_b1 (by omega) ?_|refine z_c1 (by omega) ?_|refine z_d1 (by omega) ?_|refine z_e1 (by omega) ?_|refine z_f1 (by omega) ?_|refine z_g1 (by omega) ?_|refine z_h1 (by omega) ?_|refine z_i1 (by omega) ?_|refine z_j1 (by omega) ?_|refine z_k1 (by omega) ?_|refine z_l1 ?_|refine z_m1 ?_|refine z_n1 ?_|refine z_o1 ?_|refine z_p1 ?_|refine z_q1 ?_|refine z_r1 ?_|refine z_s1 ?_|refine z_t1 ?_|refine z_u1 ?_|refine z_v1 (by omega) (by decide) ?_|refine z_w1 (by omega) (by decide) ?_|refine z_x1 (by omega) ?_|refine z_y1 (by omega) ?_|refine z_z1 (by omega) ?_|refine z_A1 ?_|refine z_B1 ?_|refine z_C1 ?_|refine z_D1 ?_|refine z_E1 ?_|refine z_F1 (by decide) ?_|refine z_G1 (by decide) ?_)
      refine act ?_
      refine (Text_spec ps[k].1 (by omega) _).mono ?_
      rintro o17 w17 ⟨ho17, hb17⟩
      refine ⟨_, (hV.below' hdr).below' hb17, fun _ h => h, ?_⟩
      refine act ?_
      refine (Text_spec ps[k].2.1 (by omega) _).mono ?_
      rintro o18 w18 ⟨ho18, hb18⟩
      have hV18 := ((hV.below' hdr).below' hb17).below' hb18
      have hb1618 := below_then hdr (below_then hb17 hb18)
      have hb18' := below_then hb16' hb1618
      refine ⟨_, hV18, fun _ h => h, ?_⟩
      have ho15' := (ho15.below hb16).below hb1618
      have hvo : ∀ {k}, o.ownBlock = some k → k ≠ w15.heap.size := fun hk he => by have := ho15.ownLt hk; omega
      refine join2 ho15' hf15 hb18'.size (ho17.below hb18) ho18 (by omega) (by omega) (by simp only [List.length_append, pairsB]; omega) (fun w' hT => hV18.turns hT (fun he => hvo he rfl)) ?_
      intro o19 w19 ho19 hf19 hT19 _
      have hb19 := turned hf15 hb18' hT19
      (repeat with_reducible first|refine z_a ?_|refine z_b ?_|refine z_c ?_|refine z_d ?_|refine z_e ?_|refine z_f ?_|refine z_g ?_|refine z_h ?_|refine z_i ?_|refine z_j ?_|refine z_k ?_|refine z_l ?_|refine z_m (by omega) ?_|refine z_n (by omega) ?_|refine z_o (by omega) ?_|refine z_p (by omega) ?_|refine z_q (by omega) ?_|refine z_r (by omega) ?_|refine z_s (by omega) ?_|refine z_t (by omega) ?_|refine z_u (by omega) ?_|refine z_v (by omega) ?_|refine z_w (by omega) ?_|refine z_x (by omega) ?_|refine z_y (by omega) ?_|refine z_z (by omega) ?_|refine z_A ?_|refine z_B ?_|refine z_C ?_|refine z_D ?_|refine z_E ?_|refine z_F ?_|refine z_G ?_|refine z_H ?_|refine z_I ?_|refine z_J ?_|refine z_K (by omega) (by decide) ?_|refine z_L (by omega) (by decide) ?_|refine z_M (by omega) ?_|refine z_N (by omega) ?_|refine z_O (by omega) ?_|refine z_P ?_|refine z_Q ?_|refine z_R ?_|refine z_S ?_|refine z_T ?_|refine z_U (by decide) ?_|refine z_V (by decide) ?_)
      refine hJ _ _ _ ⟨k + 1, by omega, by simp, ?_, hf19, hb19⟩ (by simp [intOf]; omega)
      rw [pairsB, e, ← List.append_assoc]
      exact ho19
    have hkp : k = ps.length := by omega
    subst hkp
    clear hJ
    rw [List.take_length] at ho15 bP
    have lenD : (bC ++ pairsB ps).length ≤ 40000000 := by simp only [List.length_append, pairsB]; omega
    generalize hD : bC ++ pairsB ps = bD at *
    -- the intents
    have d10 : w15.cell? ⟨g, 10, none⟩ = some (.slice A' is.length cA') := (letter hb15).cell 10
    (repeat with_reducible first | refine fd l10 (by decide) ?_| refine ld one56 d10 ?_|refine z_a ?_|refine z_b ?_|refine z_c ?_|refine z_d ?_|refine z_e ?_|refine z_f ?_|refine z_g ?_|refine z_h ?_|refine z_i ?_|refine z_j ?_|refine z_k ?_|refine z_l ?_|refine z_m (by omega) ?_|refine z_n (by omega) ?_|refine z_o (by omega) ?_|refine z_p (by omega) ?_|refine z_q (by omega) ?_|refine z_r (by omega) ?_|refine z_s (by omega) ?_|refine z_t (by omega) ?_|refine z_u (by omega) ?_|refine z_v (by omega) ?_|refine z_w (by omega) ?_|refine z_x (by omega) ?_|refine z_y (by omega) ?_|refine z_z (by omega) ?_|refine z_A ?_|refine z_B ?_|refine z_C ?_|refine z_D ?_|refine z_E ?_|refine z_F ?_|refine z_G ?_|refine z_H ?_|refine z_I ?_|refine z_J ?_|refine z_K (by omega) (by decide) ?_|refine z_L (by omega) (by decide) ?_|refine z_M (by omega) ?_|refine z_N (by omega) ?_|refine z_O (by omega) ?_|refine z_P ?_|refine z_Q ?_|refine z_R ?_|refine z_S ?_|refine z_T ?_|refine z_U (by decide) ?_|refine z_V (by decide) ?_)
    refine ln und56 ?_
    have mI := num_le6 is.length (by omega)
    refine (Num_spec is.length (by omega) w15).mono ?_
    rintro o16 w16 ⟨ho16, hf16, hb16⟩
    have hb16' := below_then hb15 hb16
    refine apF w1.heap.size undB inf5 (by rfl) (by decide) (ho15.below hb16) hf15 hb16'.size ho16.rd (u8_one _) (by simp only [List.length_map]; omega) ?_
    intro o17 w17 ho17 hf17 hb17 _
    have hb17' := hb16'.trans hb17
    rw [← List.map_append] at ho17
    have lenE : (bD ++ Pack.num is.length).length ≤ 40000010 := by simp only [List.length_append]; omega
    generalize hE : bD ++ Pack.num is.length = bE at *
    have d10' : w17.cell? ⟨g, 10, none⟩ = some (.slice A' is.length cA') := (letter hb17').cell 10
    (repeat with_reducible first | refine fd l10 (by decide) ?_| refine ld one56 d10' ?_|refine z_a ?_|refine z_b ?_|refine z_c ?_|refine z_d ?_|refine z_e ?_|refine z_f ?_|refine z_g ?_|refine z_h ?_|refine z_i ?_|refine z_j ?_|refine z_k ?_|refine z_l ?_|refine z_m (by omega) ?_|refine z_n (by omega) ?_|refine z_o (by omega) ?_|refine z_p (by omega) ?_|refine z_q (by omega) ?_|refine z_r (by omega) ?_|refine z_s (by omega) ?_|refine z_t (by omega) ?_|refine z_u (by omega) ?_|refine z_v (by omega) ?_|refine z_w (by omega) ?_|refine z_x (by omega) ?_|refine z_y (by omega) ?_|refine z_z (by omega) ?_|refine z_A ?_|refine z_B ?_|refine z_C ?_|refine z_D ?_|refine z_E ?_|refine z_F ?_|refine z_G ?_|refine z_H ?_|refine z_I ?_|refine z_J ?_|refine z_K (by omega) (by decide) ?_|refine z_L (by omega) (by decide) ?_|refine z_M (by omega) ?_|refine z_N (by omega) ?_|refine z_O (by omega) ?_|refine z_P ?_|refine z_Q ?_|refine z_R ?_|refine z_S ?_|refine z_T ?_|refine z_U (by decide) ?_|refine z_V (by decide) ?_)
    refine ln und56 ?_
    clear ho15 hf15 hb15 hb16 hb16' hb17 ho16 hf16 ho14 hf14 hb14' d10 d10'
    refine LoopP.inv2 (fun o i w' => ∃ k : Nat, k ≤ is.length ∧ i = .int .i64 k ∧ Own 5 w' o ((bE ++ intentsB (is.take k)).map u8) ∧ Fresh w1.heap.size o ∧ Below w1.heap.size w1 w') (fun _ i _ => is.length - (intOf i).toNat)
      ⟨0, by omega, rfl, by simpa [intentsB] using ho17, hf17, hb17'⟩ ?_
    rintro o _ w15 ⟨k, hk, rfl, ho15, hf15, hb15⟩ J hJ
    dsimp only [List.headD_cons, List.tail_cons]
    have bI := flat_bound (fun p : ByteArray × Int × Bool × Unit => Pack.text p.1 ++ (Pack.num p.2.1.toNat ++ Pack.num (bitN p.2.2.1))) 65554 (is.take k) (fun p hp => by
      have h1 := hisz p (List.mem_of_mem_take hp)
      have h2 := hvers p (List.mem_of_mem_take hp)
      have := text_le _ h1; have := num_le6 p.2.1.toNat (by omega); have := num_le6 (bitN p.2.2.1) (by unfold bitN; split <;> omega)
      rw [List.length_append, List.length_append]; omega)
    have hltI : (is.take k).length = k := by rw [List.length_take]; omega
    refine bi_lss_c (fun h => ?_) (fun h => ?_)
    · have hkp : k < is.length := by omega
      obtain ⟨a, us, rfl, hus, hcell, hrd⟩ := rRow.at (keeps_Intents _ _ _ _ hb15 hq1) k hkp
      obtain ⟨rfl, hz1⟩ := intent_cells hrd
      have hs1 := hisz _ (List.getElem_mem hkp)
      have hv1 := hvers _ (List.getElem_mem hkp)
      have e := map_take_succ (fun p : ByteArray × Int × Bool × Unit => Pack.text p.1 ++ (Pack.num p.2.1.toNat ++ Pack.num (bitN p.2.2.1))) is k hkp
      have t1 := text_le _ hs1
      have t2 := num_le6 is[k].2.1.toNat (by omega)
      have t3 := num_le6 (bitN is[k].2.2.1) (by unfold bitN; split <;> omega)
      (repeat with_reducible first|refine z_a ?_|refine z_b ?_|refine z_c ?_|refine z_d ?_|refine z_e ?_|refine z_f ?_|refine z_g ?_|refine z_h ?_|refine z_i ?_|refine z_j ?_|refine z_k ?_|refine z_l ?_|refine z_m (by omega) ?_|refine z_n (by omega) ?_|refine z_o (by omega) ?_|refine z_p (by omega) ?_|refine z_q (by omega) ?_|refine z_r (by omega) ?_|refine z_s (by omega) ?_|refine z_t (by omega) ?_|refine z_u (by omega) ?_|refine z_v (by omega) ?_|refine z_w (by omega) ?_|refine z_x (by omega) ?_|refine z_y (by omega) ?_|refine z_z (by omega) ?_|refine z_A ?_|refine z_B ?_|refine z_C ?_|refine z_D ?_|refine z_E ?_|refine z_F ?_|refine z_G ?_|refine z_H ?_|refine z_I ?_|refine z_J ?_|refine z_K (by omega) (by decide) ?_|refine z_L (by omega) (by decide) ?_|refine z_M (by omega) ?_|refine z_N (by omega) ?_|refine z_O (by omega) ?_|refine z_P ?_|refine z_Q ?_|refine z_R ?_|refine z_S ?_|refine z_T ?_|refine z_U (by decide) ?_|refine z_V (by decide) ?_)
      refine ix und56 sz68 (by omega) (by omega) ?_
      rw [Int.toNat_natCast]
      refine ldR agg68 hcell (by rw [sz68]; rfl) ?_
      refine al z68 ?_
      have hV0 : Blk (w15.alloc (.cells (Value.agg #[.string ⟨#[]⟩, .int .i64 0, .bool false]).cells 68)) w15.heap.size 68 #[.string ⟨#[]⟩, .int .i64 0, .bool false] := Blk.new w15 68 _
      have hav := (Below.refl w15.heap.size w15).alloc (Nat.le_refl _) (.cells (Value.agg #[.string ⟨#[]⟩, .int .i64 0, .bool false]).cells 68)
      refine stA hV0 (by exact sz68) (by rfl) (by simp [Value.oneCell']) ?_
      have hV := hV0.row #[.string is[k].1, .int .i64 is[k].2.1, .bool is[k].2.2.1]
      have hb16 := below_setRow hav (Nat.le_refl _) #[.string is[k].1, .int .i64 is[k].2.1, .bool is[k].2.2.1]
      rw [show [Value.string is[k].1, .int .i64 is[k].2.1, .bool is[k].2.2.1].toArray = #[.string is[k].1, .int .i64 is[k].2.1, .bool is[k].2.2.1] from rfl]
      generalize (w15.alloc (.cells (Value.agg #[.string ⟨#[]⟩, .int .i64 0, .bool false]).cells 68)).setRow w15.heap.size #[.string is[k].1, .int .i64 is[k].2.1, .bool is[k].2.2.1] = w16 at *
      have hb16' := below_then hb15 hb16
      have hdr : Below w16.heap.size w16 w16.drew := (Below.refl _ _).drew
      refine draw (fun w' => Blk w' w15.heap.size 68 #[.string is[k].1, .int .i64 is[k].2.1, .bool is[k].2.2.1]) (hV.below' hdr) ?_
      have e0 : ∀ w', Blk w' w15.heap.size 68 #[.string is[k].1, .int .i64 is[k].2.1, .bool is[k].2.2.1] → w'.cell? ⟨w15.heap.size, 0, none⟩ = some (.string is[k].1) := fun w' h => h.cell 0
      have e1 : ∀ w', Blk w' w15.heap.size 68 #[.string is[k].1, .int .i64 is[k].2.1, .bool is[k].2.2.1] → w'.cell? ⟨w15.heap.size, 1, none⟩ = some (.int .i64 is[k].2.1) := fun w' h => h.cell 1
      have e2 : ∀ w', Blk w' w15.heap.size 68 #[.string is[k].1, .int .i64 is[k].2.1, .bool is[k].2.2.1] → w'.cell? ⟨w15.heap.size, 2, none⟩ = some (.bool is[k].2.2.1) := fun w' h => h.cell 2
      (repeat with_reducible first | refine yfd q0' (by decide) ?_| refine yl1 one9 e0 ?_| refine yfd q1' (by decide) ?_| refine yl1 one3 e1 ?_| refine yfd q2' (by decide) ?_| refine yl1 one4 e2 ?_|refine z_W ?_|refine z_a ?_|refine z_b ?_|refine z_c ?_|refine z_d ?_|refine z_e ?_|refine z_f ?_|refine z_g ?_|refine z_h ?_|refine z_i ?_|refine z_j ?_|refine z_k ?_|refine z_l ?_|refine z_X (by omega) ?_|refine z_Y (by omega) ?_|refine z_Z (by omega) ?_|refine z_a1 (by omega) ?_|refine z_b1 (by omega) ?_|refine z_c1 (by omega) ?_|refine z_d1 (by omega) ?_|refine z_e1 (by omega) ?_|refine z_f1 (by omega) ?_|refine z_g1 (by omega) ?_|refine z_h1 (by omega) ?_|refine z_i1 (by omega) ?_|refine z_j1 (by omega) ?_|refine z_k1 (by omega) ?_|refine z_l1 ?_|refine z_m1 ?_|refine z_n1 ?_|refine z_o1 ?_|refine z_p1 ?_|refine z_q1 ?_|refine z_r1 ?_|refine z_s1 ?_|refine z_t1 ?_|refine z_u1 ?_|refine z_v1 (by omega) (by decide) ?_|refine z_w1 (by omega) (by decide) ?_|refine z_x1 (by omega) ?_|refine z_y1 (by omega) ?_|refine z_z1 (by omega) ?_|refine z_A1 ?_|refine z_B1 ?_|refine z_C1 ?_|refine z_D1 ?_|refine z_E1 ?_|refine z_F1 (by decide) ?_|refine z_G1 (by decide) ?_)
      refine act ?_
      refine (Text_spec is[k].1 (by omega) _).mono ?_
      rintro o17 w17 ⟨ho17, hb17⟩
      have hV17 := (hV.below' hdr).below' hb17
      refine ⟨_, hV17, fun _ h => h, ?_⟩
      refine act ?_
      rw [show is[k].2.1 = ((is[k].2.1.toNat : Nat) : Int) from by omega]
      refine (Num_spec is[k].2.1.toNat (by omega) _).mono ?_
      rintro o18 w18 ⟨ho18, hf18, hb18⟩
      have hV18 := hV17.below' hb18
      rw [show ((is[k].2.1.toNat : Nat) : Int) = is[k].2.1 from by omega] at *
      refine ⟨_, hV18, fun _ h => h, ?_⟩
      refine act ?_
      refine (bit_spec is[k].2.2.1 _).mono ?_
      rintro _ _ ⟨rfl, rfl⟩
      refine ⟨_, hV18, fun _ h => h, ?_⟩
      refine act ?_
      refine (Num_spec (bitN is[k].2.2.1) (by unfold bitN; split <;> omega) _).mono ?_
      rintro o19 w19 ⟨ho19, hf19, hb19⟩
      have hV19 := hV18.below' hb19
      have hb1619 := below_then hdr (below_then hb17 (below_then hb18 hb19))
      have hb19' := below_then hb16' hb1619
      refine ⟨_, hV19, fun _ h => h, ?_⟩
      have ho15' := (ho15.below hb16).below hb1619
      have hvo : ∀ {k}, o.ownBlock = some k → k ≠ w15.heap.size := fun hk he => by have := ho15.ownLt hk; omega
      refine join3 ho15' hf15 hb19'.size ((ho17.below hb18).below hb19) (ho18.below hb19) ho19 (by omega) (by omega) (by omega) (by simp only [List.length_append, intentsB]; omega) (fun w' hT => hV19.turns hT (fun he => hvo he rfl)) ?_
      intro o20 w20 ho20 hf20 hT20 _
      have hb20 := turned hf15 hb19' hT20
      (repeat with_reducible first|refine z_a ?_|refine z_b ?_|refine z_c ?_|refine z_d ?_|refine z_e ?_|refine z_f ?_|refine z_g ?_|refine z_h ?_|refine z_i ?_|refine z_j ?_|refine z_k ?_|refine z_l ?_|refine z_m (by omega) ?_|refine z_n (by omega) ?_|refine z_o (by omega) ?_|refine z_p (by omega) ?_|refine z_q (by omega) ?_|refine z_r (by omega) ?_|refine z_s (by omega) ?_|refine z_t (by omega) ?_|refine z_u (by omega) ?_|refine z_v (by omega) ?_|refine z_w (by omega) ?_|refine z_x (by omega) ?_|refine z_y (by omega) ?_|refine z_z (by omega) ?_|refine z_A ?_|refine z_B ?_|refine z_C ?_|refine z_D ?_|refine z_E ?_|refine z_F ?_|refine z_G ?_|refine z_H ?_|refine z_I ?_|refine z_J ?_|refine z_K (by omega) (by decide) ?_|refine z_L (by omega) (by decide) ?_|refine z_M (by omega) ?_|refine z_N (by omega) ?_|refine z_O (by omega) ?_|refine z_P ?_|refine z_Q ?_|refine z_R ?_|refine z_S ?_|refine z_T ?_|refine z_U (by decide) ?_|refine z_V (by decide) ?_)
      refine hJ _ _ _ ⟨k + 1, by omega, by simp, ?_, hf20, hb20⟩ (by simp [intOf]; omega)
      rw [intentsB, e, ← List.append_assoc]
      rw [← List.append_assoc (Pack.text is[k].1)]
      exact ho20
    have hkp : k = is.length := by omega
    subst hkp
    clear hJ
    rw [List.take_length] at ho15
    have hall : bE ++ intentsB is = packedB L ps is := by rw [← hE, ← hD, ← hC, ← hB, ← hA, packedB]
    rw [hall] at ho15
    have hgerr : packErr L ps is = if 65536 < (packedB L ps is).length then 4 else 0 := by
      rw [packErr, if_neg (by rw [hgood]; simp), if_neg hbig]
    have hrb := ho15.rdB
    obtain ⟨Ao, co, rfl⟩ := ho15.slice
    rw [List.length_map] at hrb ⊢
    (repeat with_reducible first|refine z_a ?_|refine z_b ?_|refine z_c ?_|refine z_d ?_|refine z_e ?_|refine z_f ?_|refine z_g ?_|refine z_h ?_|refine z_i ?_|refine z_j ?_|refine z_k ?_|refine z_l ?_|refine z_m (by omega) ?_|refine z_n (by omega) ?_|refine z_o (by omega) ?_|refine z_p (by omega) ?_|refine z_q (by omega) ?_|refine z_r (by omega) ?_|refine z_s (by omega) ?_|refine z_t (by omega) ?_|refine z_u (by omega) ?_|refine z_v (by omega) ?_|refine z_w (by omega) ?_|refine z_x (by omega) ?_|refine z_y (by omega) ?_|refine z_z (by omega) ?_|refine z_A ?_|refine z_B ?_|refine z_C ?_|refine z_D ?_|refine z_E ?_|refine z_F ?_|refine z_G ?_|refine z_H ?_|refine z_I ?_|refine z_J ?_|refine z_K (by omega) (by decide) ?_|refine z_L (by omega) (by decide) ?_|refine z_M (by omega) ?_|refine z_N (by omega) ?_|refine z_O (by omega) ?_|refine z_P ?_|refine z_Q ?_|refine z_R ?_|refine z_S ?_|refine z_T ?_|refine z_U (by decide) ?_|refine z_V (by decide) ?_)
    refine ln undB ?_
    refine bi_gtr_c (fun h => ?_) (fun h => ?_)
    · (repeat with_reducible first|refine z_a ?_|refine z_b ?_|refine z_c ?_|refine z_d ?_|refine z_e ?_|refine z_f ?_|refine z_g ?_|refine z_h ?_|refine z_i ?_|refine z_j ?_|refine z_k ?_|refine z_l ?_|refine z_m (by omega) ?_|refine z_n (by omega) ?_|refine z_o (by omega) ?_|refine z_p (by omega) ?_|refine z_q (by omega) ?_|refine z_r (by omega) ?_|refine z_s (by omega) ?_|refine z_t (by omega) ?_|refine z_u (by omega) ?_|refine z_v (by omega) ?_|refine z_w (by omega) ?_|refine z_x (by omega) ?_|refine z_y (by omega) ?_|refine z_z (by omega) ?_|refine z_A ?_|refine z_B ?_|refine z_C ?_|refine z_D ?_|refine z_E ?_|refine z_F ?_|refine z_G ?_|refine z_H ?_|refine z_I ?_|refine z_J ?_|refine z_K (by omega) (by decide) ?_|refine z_L (by omega) (by decide) ?_|refine z_M (by omega) ?_|refine z_N (by omega) ?_|refine z_O (by omega) ?_|refine z_P ?_|refine z_Q ?_|refine z_R ?_|refine z_S ?_|refine z_T ?_|refine z_U (by decide) ?_|refine z_V (by decide) ?_)
      refine ⟨⟨⟨#[]⟩, ?_⟩, hfin hb15⟩
      rw [hgerr, if_pos (by omega)]; rfl
    · (repeat with_reducible first|refine z_a ?_|refine z_b ?_|refine z_c ?_|refine z_d ?_|refine z_e ?_|refine z_f ?_|refine z_g ?_|refine z_h ?_|refine z_i ?_|refine z_j ?_|refine z_k ?_|refine z_l ?_|refine z_m (by omega) ?_|refine z_n (by omega) ?_|refine z_o (by omega) ?_|refine z_p (by omega) ?_|refine z_q (by omega) ?_|refine z_r (by omega) ?_|refine z_s (by omega) ?_|refine z_t (by omega) ?_|refine z_u (by omega) ?_|refine z_v (by omega) ?_|refine z_w (by omega) ?_|refine z_x (by omega) ?_|refine z_y (by omega) ?_|refine z_z (by omega) ?_|refine z_A ?_|refine z_B ?_|refine z_C ?_|refine z_D ?_|refine z_E ?_|refine z_F ?_|refine z_G ?_|refine z_H ?_|refine z_I ?_|refine z_J ?_|refine z_K (by omega) (by decide) ?_|refine z_L (by omega) (by decide) ?_|refine z_M (by omega) ?_|refine z_N (by omega) ?_|refine z_O (by omega) ?_|refine z_P ?_|refine z_Q ?_|refine z_R ?_|refine z_S ?_|refine z_T ?_|refine z_U (by decide) ?_|refine z_V (by decide) ?_)
      refine cvBS undB und5 und9 hrb ?_
      refine ⟨⟨⟨(packedB L ps is).toArray⟩, ?_⟩, hfin hb15⟩
      rw [hgerr, if_neg (by omega)]; rfl
end Go.Proofs.Ythicbfopjakiiaa.E
