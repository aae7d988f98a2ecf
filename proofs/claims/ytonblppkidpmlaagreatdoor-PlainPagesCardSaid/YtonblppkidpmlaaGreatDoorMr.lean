import Derived.Test.YtonblppkidpmlaaGreatDoorMq
namespace Go.Proofs.YtonblppkidpmlaaGreatDoor.E
open Go Go.RowKit
set_option linter.unusedSimpArgs false
set_option linter.unusedVariables false

/-- Where a struct's field lies, and that it is one cell. -/
def fldB (P : Program) (t : TypeId) (i : Nat) : Option (Nat × Bool) := match P.underlying t with
  | some (.struct fs) => (fs[i]?).bind fun f => (P.underlying f.type).map fun d => (f.offset, flat1 d)
  | _ => none
section
variable {P : Program} {K : Value → World → Prop} {w : World}
theorem fld {t : TypeId} {i o : Nat} (h : fldB P t i = some (o, true)) {cs : Array Value} {v : Value} (hv : cs[o]? = some v) (k : K v w) : LiftP P (Instr.field t (.agg cs) i) K w := by
  refine lift (v := v) (w' := w) ?_ k
  unfold fldB at h
  cases hu : P.underlying t with
  | none => rw [hu] at h; cases h
  | some d =>
    rw [hu] at h
    cases d <;> try (cases h; done)
    rename_i fs
    simp only at h
    obtain ⟨f, hf, h⟩ := Option.bind_eq_some_iff.1 h
    obtain ⟨d, hd, he⟩ := Option.map_eq_some_iff.1 h
    simp only [Prod.mk.injEq] at he
    obtain ⟨rfl, h1⟩ := he
    have := part1 hd h1 cs f.offset v hv w
    simp [Instr.field, run_underlying hu, hf, asAgg, this]
/-- append(v, x...), x any row of structs: the row's block is v's, or new; only v's turns. -/
theorem apRt {t ty e : TypeId} {cs : Array Bool} {z : Value} {size bytes : Nat} (ht : P.underlying t = some (.slice e)) (hinfo : (P.info? e).map (fun i => (i.zero, i.size, i.bytes)) = some (some z, size, bytes)) (hz : z.cells.size = size) (hsz : 0 < size)
    {v : Value} {xs : List Value} {n : Nat} (hown : w.ownsRow 0 e size v n xs) {α : Type} {f : α → List Value} (hfl : ∀ x, (f x).length = size)
    {x : Value} {l : List α} (hf1 : ∀ x ∈ l, ∀ u ∈ f x, u.oneCell' = true) (hx : rRow size (fun _ us x => us = f x) w [x] l) (h63 : n + l.length ≤ 9223372036854775807) (hbytes : (n + l.length) * bytes ≤ 140737488355328)
    (k : ∀ v' w', w'.ownsRow 0 e size v' (n + l.length) (xs ++ l.flatMap f) → (v'.ownBlock = v.ownBlock ∨ v'.ownBlock = some w.heap.size) → Turns (fun j => v.ownBlock = some j) w w' → K v' w') : NextP P (builtin .append #[t, t] ty cs #[v, x]) K w := by
  obtain ⟨A, c, he, h1, h2, h3⟩ := hx
  simp only [List.cons.injEq, and_true] at he
  subst he
  cases A with
  | none =>
    have h0 : l = [] := by
      cases l with
      | nil => rfl
      | cons p r => obtain ⟨a, us, h, _⟩ := h3 0 p rfl; cases h
    subst h0
    obtain ⟨i, hi, hzz⟩ := Option.map_eq_some_iff.1 hinfo
    refine nextV (v := v) (w' := w) ?_ (k v w (by simpa using hown) (.inl rfl) (Turns.refl _ w))
    have hrun : (Builtin.append_ #[t, t] ty #[v, .slice none 0 c]).run P w = .ok v w := by
      rcases hown.2 with ⟨rfl, _⟩ | ⟨g, cap, cur, rfl, _, _, hnc, _⟩
      · simp [Builtin.append_, run_underlying ht, sizeOf, typeInfo, hi, Builtin.lenOf, Builtin.firstCells]
      · simp [Builtin.append_, run_underlying ht, sizeOf, typeInfo, hi, Builtin.lenOf, Builtin.firstCells, hnc, storeCells]
    simp only [builtin, List.length_nil] at hrun ⊢
    simp [hrun]
  | some a =>
    refine apGb ht hinfo hz hsz hown (news := l.flatMap f) (flatMap_len f size hfl l) (fun j u hu => ?_) (fun u hu => ?_) h63 hbytes k
    · have hj := (List.getElem?_eq_some_iff.1 hu).1
      rw [flatMap_len f size hfl] at hj
      have hi : j / size < l.length := Nat.div_lt_of_lt_mul (by rw [Nat.mul_comm]; exact hj)
      have hm : j % size < size := Nat.mod_lt _ hsz
      obtain ⟨a', us, ha, hus, hcell, hrd⟩ := h3 (j / size) l[j / size] (List.getElem?_eq_getElem hi)
      cases ha
      have hdm : j / size * size + j % size = j := Nat.div_add_mod' j size
      have := flatMap_at f size hfl l (j / size) (j % size) l[j / size] (List.getElem?_eq_getElem hi) hm
      rw [hdm, hu] at this
      have hx : us = f l[j / size] := hrd
      subst hx
      have := hcell (j % size) u this.symm
      rwa [hdm] at this
    · obtain ⟨x, hxl, hx⟩ := List.mem_flatMap.1 hu
      exact hf1 x hxl u hx
end
theorem sliceOf' {w : World} {v : Value} {l : List ValT} (h : Vals w [v] l) : v.oneCell' = true := by obtain ⟨A, c, rfl, _⟩ := h.slice; rfl
theorem mmF_one {w : World} {m : Mm} (h : Vals w [m.2.1] m.2.2) : ∀ u ∈ mmF m, u.oneCell' = true := by
  intro u hu
  simp only [mmF, List.mem_cons, List.not_mem_nil, or_false] at hu
  rcases hu with rfl | rfl
  · rfl
  · exact sliceOf' h
def oS (t : Txt) (to : ByteArray) (n : Int) : OpP := ⟨5, ⟨t.toArray⟩, to, [], [], 0, [], [], [], n, 0, 0⟩
theorem oS_at (w : World) {t : Txt} {to : ByteArray} {n : Int} (h1 : t.length ≤ 16) (h2 : to.size ≤ 16) (h3 : 1 ≤ n ∧ n ≤ 64) : OpAt w (oS t to n) sN :=
  ⟨vals_nil _, vals_nil _, ints_nil _, vals_nil _, vals_nil _, by dsimp only [oS]; omega, ⟨by show t.toArray.size ≤ maxLen; simp only [List.size_toArray, maxLen]; omega, by show to.size ≤ maxLen; simp only [maxLen]; omega⟩⟩
theorem scan_ok (S : StT) {t : Txt} {to : ByteArray} {n : Int} (h1 : t.length ≤ 16) (h2 : to.size ≤ 16) (h3 : 1 ≤ n ∧ n ≤ 64) : doS S (oS t to n) = (S, { rep0 with rows := (scanV S.R t to.data.toList).take n.toNat }) := by
  have h0 : chk (oS t to n) = 0 := by
    show firstE [mustE (decide ((⟨t.toArray⟩ : ByteArray).size ≤ 16 ∧ to.size ≤ 16)), inE n 1 64] = 0
    have e : (⟨t.toArray⟩ : ByteArray).size ≤ 16 := by show t.toArray.size ≤ 16; simpa using h1
    rw [decide_eq_true ⟨e, h2⟩]
    have : inE n 1 64 = 0 := by unfold inE; rw [if_pos h3]
    rw [this]
    rfl
  unfold doS
  simp only [h0, ne_eq, not_true_eq_false, ↓reduceIte]
  rfl
/-- While pages are gathered. -/
def PgI (w w' : World) (g : Nat) (S : StT) (vw : Value) (Mw : List Mm) (v : Value) (G : List Mm) : Prop :=
  ∃ c : Nat → Nat, (∀ k, k < w.heap.size → c k = 0) ∧ PlS 1 c w' g S ∧ Below w.heap.size w w' ∧ w'.ownsRow 0 40 2 v G.length (G.flatMap mmF) ∧ InC c 5 v ∧ (∀ m ∈ G, VS 6 c w' m.2.1 m.2.2) ∧ RowsC 3 c w' vw Mw
set_option maxHeartbeats 2000000 in
theorem PlainPages4 (v : Value) (l : List OpT) (from_ to : ByteArray) (z : Int) (w : World) (hv : Ops w [v] l) (hm : GMx w) :
    CallP Tryz.prog 4 #[v, .string from_, .string to, .int .i64 z] (fun r w' => r = .bool true ∧ Below w.heap.size w w') w := by
  refine ⟨S4.calls _ _ _ _ _ _ ?_⟩
  unfold S4
  refine (awake9 w hm).mono ?_
  rintro _ wa ⟨rfl, hba⟩
  (repeat with_reducible first|refine z_a ?_|refine z_b ?_|refine z_c ?_|refine z_d ?_|refine z_e ?_|refine z_f ?_|refine z_g ?_|refine z_h ?_|refine z_i ?_|refine z_j ?_|refine z_k ?_|refine z_l ?_|refine z_m (by omega) ?_|refine z_n (by omega) ?_|refine z_o (by omega) ?_|refine z_p (by omega) ?_|refine z_q (by omega) ?_|refine z_r (by omega) ?_|refine z_s (by omega) ?_|refine z_t (by omega) ?_|refine z_u (by omega) ?_|refine z_v (by omega) ?_|refine z_w (by omega) ?_|refine z_x (by omega) ?_|refine z_y (by omega) ?_|refine z_z (by omega) ?_|refine z_A ?_|refine z_B ?_|refine z_C ?_|refine z_D ?_|refine z_E ?_|refine z_F ?_|refine z_G ?_|refine z_H ?_|refine z_I ?_|refine z_J ?_|refine z_K (by omega) (by decide) ?_|refine z_L (by omega) (by decide) ?_|refine z_M (by omega) ?_|refine z_N (by omega) ?_|refine z_O (by omega) ?_|refine z_P ?_|refine z_Q ?_|refine z_R ?_|refine z_S ?_|refine z_T ?_|refine z_U (by decide) ?_|refine z_V (by decide) ?_)
  simp only [Bool.not_true]
  (repeat with_reducible first|refine z_a ?_|refine z_b ?_|refine z_c ?_|refine z_d ?_|refine z_e ?_|refine z_f ?_|refine z_g ?_|refine z_h ?_|refine z_i ?_|refine z_j ?_|refine z_k ?_|refine z_l ?_|refine z_m (by omega) ?_|refine z_n (by omega) ?_|refine z_o (by omega) ?_|refine z_p (by omega) ?_|refine z_q (by omega) ?_|refine z_r (by omega) ?_|refine z_s (by omega) ?_|refine z_t (by omega) ?_|refine z_u (by omega) ?_|refine z_v (by omega) ?_|refine z_w (by omega) ?_|refine z_x (by omega) ?_|refine z_y (by omega) ?_|refine z_z (by omega) ?_|refine z_A ?_|refine z_B ?_|refine z_C ?_|refine z_D ?_|refine z_E ?_|refine z_F ?_|refine z_G ?_|refine z_H ?_|refine z_I ?_|refine z_J ?_|refine z_K (by omega) (by decide) ?_|refine z_L (by omega) (by decide) ?_|refine z_M (by omega) ?_|refine z_N (by omega) ?_|refine z_O (by omega) ?_|refine z_P ?_|refine z_Q ?_|refine z_R ?_|refine z_S ?_|refine z_T ?_|refine z_U (by decide) ?_|refine z_V (by decide) ?_)
  refine (AllLight13 v l 60 (by decide) wa (keeps_Ops _ _ _ _ hba hv)).mono ?_
  rintro _ wb ⟨b, rfl, hlt, hbb⟩
  have hb1 := below_then hba hbb
  refine bi_not ?_
  cases b with
  | false =>
    simp only [Bool.not_false]
    (repeat with_reducible first|refine z_a ?_|refine z_b ?_|refine z_c ?_|refine z_d ?_|refine z_e ?_|refine z_f ?_|refine z_g ?_|refine z_h ?_|refine z_i ?_|refine z_j ?_|refine z_k ?_|refine z_l ?_|refine z_m (by omega) ?_|refine z_n (by omega) ?_|refine z_o (by omega) ?_|refine z_p (by omega) ?_|refine z_q (by omega) ?_|refine z_r (by omega) ?_|refine z_s (by omega) ?_|refine z_t (by omega) ?_|refine z_u (by omega) ?_|refine z_v (by omega) ?_|refine z_w (by omega) ?_|refine z_x (by omega) ?_|refine z_y (by omega) ?_|refine z_z (by omega) ?_|refine z_A ?_|refine z_B ?_|refine z_C ?_|refine z_D ?_|refine z_E ?_|refine z_F ?_|refine z_G ?_|refine z_H ?_|refine z_I ?_|refine z_J ?_|refine z_K (by omega) (by decide) ?_|refine z_L (by omega) (by decide) ?_|refine z_M (by omega) ?_|refine z_N (by omega) ?_|refine z_O (by omega) ?_|refine z_P ?_|refine z_Q ?_|refine z_R ?_|refine z_S ?_|refine z_T ?_|refine z_U (by decide) ?_|refine z_V (by decide) ?_)
    exact ⟨by first | rfl | trivial, hb1⟩
  | true =>
  have hl := (hlt rfl).1
  simp only [Bool.not_true]
  (repeat with_reducible first|refine z_a ?_|refine z_b ?_|refine z_c ?_|refine z_d ?_|refine z_e ?_|refine z_f ?_|refine z_g ?_|refine z_h ?_|refine z_i ?_|refine z_j ?_|refine z_k ?_|refine z_l ?_|refine z_m (by omega) ?_|refine z_n (by omega) ?_|refine z_o (by omega) ?_|refine z_p (by omega) ?_|refine z_q (by omega) ?_|refine z_r (by omega) ?_|refine z_s (by omega) ?_|refine z_t (by omega) ?_|refine z_u (by omega) ?_|refine z_v (by omega) ?_|refine z_w (by omega) ?_|refine z_x (by omega) ?_|refine z_y (by omega) ?_|refine z_z (by omega) ?_|refine z_A ?_|refine z_B ?_|refine z_C ?_|refine z_D ?_|refine z_E ?_|refine z_F ?_|refine z_G ?_|refine z_H ?_|refine z_I ?_|refine z_J ?_|refine z_K (by omega) (by decide) ?_|refine z_L (by omega) (by decide) ?_|refine z_M (by omega) ?_|refine z_N (by omega) ?_|refine z_O (by omega) ?_|refine z_P ?_|refine z_Q ?_|refine z_R ?_|refine z_S ?_|refine z_T ?_|refine z_U (by decide) ?_|refine z_V (by decide) ?_)
  refine lns und9 ?_
  (repeat with_reducible first|refine z_a ?_|refine z_b ?_|refine z_c ?_|refine z_d ?_|refine z_e ?_|refine z_f ?_|refine z_g ?_|refine z_h ?_|refine z_i ?_|refine z_j ?_|refine z_k ?_|refine z_l ?_|refine z_m (by omega) ?_|refine z_n (by omega) ?_|refine z_o (by omega) ?_|refine z_p (by omega) ?_|refine z_q (by omega) ?_|refine z_r (by omega) ?_|refine z_s (by omega) ?_|refine z_t (by omega) ?_|refine z_u (by omega) ?_|refine z_v (by omega) ?_|refine z_w (by omega) ?_|refine z_x (by omega) ?_|refine z_y (by omega) ?_|refine z_z (by omega) ?_|refine z_A ?_|refine z_B ?_|refine z_C ?_|refine z_D ?_|refine z_E ?_|refine z_F ?_|refine z_G ?_|refine z_H ?_|refine z_I ?_|refine z_J ?_|refine z_K (by omega) (by decide) ?_|refine z_L (by omega) (by decide) ?_|refine z_M (by omega) ?_|refine z_N (by omega) ?_|refine z_O (by omega) ?_|refine z_P ?_|refine z_Q ?_|refine z_R ?_|refine z_S ?_|refine z_T ?_|refine z_U (by decide) ?_|refine z_V (by decide) ?_)
  refine bi_gtr_c (fun g1 => ?_) (fun g1 => ?_)
  · (repeat with_reducible first|refine z_a ?_|refine z_b ?_|refine z_c ?_|refine z_d ?_|refine z_e ?_|refine z_f ?_|refine z_g ?_|refine z_h ?_|refine z_i ?_|refine z_j ?_|refine z_k ?_|refine z_l ?_|refine z_m (by omega) ?_|refine z_n (by omega) ?_|refine z_o (by omega) ?_|refine z_p (by omega) ?_|refine z_q (by omega) ?_|refine z_r (by omega) ?_|refine z_s (by omega) ?_|refine z_t (by omega) ?_|refine z_u (by omega) ?_|refine z_v (by omega) ?_|refine z_w (by omega) ?_|refine z_x (by omega) ?_|refine z_y (by omega) ?_|refine z_z (by omega) ?_|refine z_A ?_|refine z_B ?_|refine z_C ?_|refine z_D ?_|refine z_E ?_|refine z_F ?_|refine z_G ?_|refine z_H ?_|refine z_I ?_|refine z_J ?_|refine z_K (by omega) (by decide) ?_|refine z_L (by omega) (by decide) ?_|refine z_M (by omega) ?_|refine z_N (by omega) ?_|refine z_O (by omega) ?_|refine z_P ?_|refine z_Q ?_|refine z_R ?_|refine z_S ?_|refine z_T ?_|refine z_U (by decide) ?_|refine z_V (by decide) ?_)
    exact ⟨by first | rfl | trivial, hb1⟩
  (repeat with_reducible first|refine z_a ?_|refine z_b ?_|refine z_c ?_|refine z_d ?_|refine z_e ?_|refine z_f ?_|refine z_g ?_|refine z_h ?_|refine z_i ?_|refine z_j ?_|refine z_k ?_|refine z_l ?_|refine z_m (by omega) ?_|refine z_n (by omega) ?_|refine z_o (by omega) ?_|refine z_p (by omega) ?_|refine z_q (by omega) ?_|refine z_r (by omega) ?_|refine z_s (by omega) ?_|refine z_t (by omega) ?_|refine z_u (by omega) ?_|refine z_v (by omega) ?_|refine z_w (by omega) ?_|refine z_x (by omega) ?_|refine z_y (by omega) ?_|refine z_z (by omega) ?_|refine z_A ?_|refine z_B ?_|refine z_C ?_|refine z_D ?_|refine z_E ?_|refine z_F ?_|refine z_G ?_|refine z_H ?_|refine z_I ?_|refine z_J ?_|refine z_K (by omega) (by decide) ?_|refine z_L (by omega) (by decide) ?_|refine z_M (by omega) ?_|refine z_N (by omega) ?_|refine z_O (by omega) ?_|refine z_P ?_|refine z_Q ?_|refine z_R ?_|refine z_S ?_|refine z_T ?_|refine z_U (by decide) ?_|refine z_V (by decide) ?_)
  refine lns und9 ?_
  (repeat with_reducible first|refine z_a ?_|refine z_b ?_|refine z_c ?_|refine z_d ?_|refine z_e ?_|refine z_f ?_|refine z_g ?_|refine z_h ?_|refine z_i ?_|refine z_j ?_|refine z_k ?_|refine z_l ?_|refine z_m (by omega) ?_|refine z_n (by omega) ?_|refine z_o (by omega) ?_|refine z_p (by omega) ?_|refine z_q (by omega) ?_|refine z_r (by omega) ?_|refine z_s (by omega) ?_|refine z_t (by omega) ?_|refine z_u (by omega) ?_|refine z_v (by omega) ?_|refine z_w (by omega) ?_|refine z_x (by omega) ?_|refine z_y (by omega) ?_|refine z_z (by omega) ?_|refine z_A ?_|refine z_B ?_|refine z_C ?_|refine z_D ?_|refine z_E ?_|refine z_F ?_|refine z_G ?_|refine z_H ?_|refine z_I ?_|refine z_J ?_|refine z_K (by omega) (by decide) ?_|refine z_L (by omega) (by decide) ?_|refine z_M (by omega) ?_|refine z_N (by omega) ?_|refine z_O (by omega) ?_|refine z_P ?_|refine z_Q ?_|refine z_R ?_|refine z_S ?_|refine z_T ?_|refine z_U (by decide) ?_|refine z_V (by decide) ?_)
  refine bi_gtr_c (fun g2 => ?_) (fun g2 => ?_)
  · (repeat with_reducible first|refine z_a ?_|refine z_b ?_|refine z_c ?_|refine z_d ?_|refine z_e ?_|refine z_f ?_|refine z_g ?_|refine z_h ?_|refine z_i ?_|refine z_j ?_|refine z_k ?_|refine z_l ?_|refine z_m (by omega) ?_|refine z_n (by omega) ?_|refine z_o (by omega) ?_|refine z_p (by omega) ?_|refine z_q (by omega) ?_|refine z_r (by omega) ?_|refine z_s (by omega) ?_|refine z_t (by omega) ?_|refine z_u (by omega) ?_|refine z_v (by omega) ?_|refine z_w (by omega) ?_|refine z_x (by omega) ?_|refine z_y (by omega) ?_|refine z_z (by omega) ?_|refine z_A ?_|refine z_B ?_|refine z_C ?_|refine z_D ?_|refine z_E ?_|refine z_F ?_|refine z_G ?_|refine z_H ?_|refine z_I ?_|refine z_J ?_|refine z_K (by omega) (by decide) ?_|refine z_L (by omega) (by decide) ?_|refine z_M (by omega) ?_|refine z_N (by omega) ?_|refine z_O (by omega) ?_|refine z_P ?_|refine z_Q ?_|refine z_R ?_|refine z_S ?_|refine z_T ?_|refine z_U (by decide) ?_|refine z_V (by decide) ?_)
    exact ⟨by first | rfl | trivial, hb1⟩
  (repeat with_reducible first|refine z_a ?_|refine z_b ?_|refine z_c ?_|refine z_d ?_|refine z_e ?_|refine z_f ?_|refine z_g ?_|refine z_h ?_|refine z_i ?_|refine z_j ?_|refine z_k ?_|refine z_l ?_|refine z_m (by omega) ?_|refine z_n (by omega) ?_|refine z_o (by omega) ?_|refine z_p (by omega) ?_|refine z_q (by omega) ?_|refine z_r (by omega) ?_|refine z_s (by omega) ?_|refine z_t (by omega) ?_|refine z_u (by omega) ?_|refine z_v (by omega) ?_|refine z_w (by omega) ?_|refine z_x (by omega) ?_|refine z_y (by omega) ?_|refine z_z (by omega) ?_|refine z_A ?_|refine z_B ?_|refine z_C ?_|refine z_D ?_|refine z_E ?_|refine z_F ?_|refine z_G ?_|refine z_H ?_|refine z_I ?_|refine z_J ?_|refine z_K (by omega) (by decide) ?_|refine z_L (by omega) (by decide) ?_|refine z_M (by omega) ?_|refine z_N (by omega) ?_|refine z_O (by omega) ?_|refine z_P ?_|refine z_Q ?_|refine z_R ?_|refine z_S ?_|refine z_T ?_|refine z_U (by decide) ?_|refine z_V (by decide) ?_)
  refine bi_lss_c (fun g3 => ?_) (fun g3 => ?_)
  · (repeat with_reducible first|refine z_a ?_|refine z_b ?_|refine z_c ?_|refine z_d ?_|refine z_e ?_|refine z_f ?_|refine z_g ?_|refine z_h ?_|refine z_i ?_|refine z_j ?_|refine z_k ?_|refine z_l ?_|refine z_m (by omega) ?_|refine z_n (by omega) ?_|refine z_o (by omega) ?_|refine z_p (by omega) ?_|refine z_q (by omega) ?_|refine z_r (by omega) ?_|refine z_s (by omega) ?_|refine z_t (by omega) ?_|refine z_u (by omega) ?_|refine z_v (by omega) ?_|refine z_w (by omega) ?_|refine z_x (by omega) ?_|refine z_y (by omega) ?_|refine z_z (by omega) ?_|refine z_A ?_|refine z_B ?_|refine z_C ?_|refine z_D ?_|refine z_E ?_|refine z_F ?_|refine z_G ?_|refine z_H ?_|refine z_I ?_|refine z_J ?_|refine z_K (by omega) (by decide) ?_|refine z_L (by omega) (by decide) ?_|refine z_M (by omega) ?_|refine z_N (by omega) ?_|refine z_O (by omega) ?_|refine z_P ?_|refine z_Q ?_|refine z_R ?_|refine z_S ?_|refine z_T ?_|refine z_U (by decide) ?_|refine z_V (by decide) ?_)
    exact ⟨by first | rfl | trivial, hb1⟩
  (repeat with_reducible first|refine z_a ?_|refine z_b ?_|refine z_c ?_|refine z_d ?_|refine z_e ?_|refine z_f ?_|refine z_g ?_|refine z_h ?_|refine z_i ?_|refine z_j ?_|refine z_k ?_|refine z_l ?_|refine z_m (by omega) ?_|refine z_n (by omega) ?_|refine z_o (by omega) ?_|refine z_p (by omega) ?_|refine z_q (by omega) ?_|refine z_r (by omega) ?_|refine z_s (by omega) ?_|refine z_t (by omega) ?_|refine z_u (by omega) ?_|refine z_v (by omega) ?_|refine z_w (by omega) ?_|refine z_x (by omega) ?_|refine z_y (by omega) ?_|refine z_z (by omega) ?_|refine z_A ?_|refine z_B ?_|refine z_C ?_|refine z_D ?_|refine z_E ?_|refine z_F ?_|refine z_G ?_|refine z_H ?_|refine z_I ?_|refine z_J ?_|refine z_K (by omega) (by decide) ?_|refine z_L (by omega) (by decide) ?_|refine z_M (by omega) ?_|refine z_N (by omega) ?_|refine z_O (by omega) ?_|refine z_P ?_|refine z_Q ?_|refine z_R ?_|refine z_S ?_|refine z_T ?_|refine z_U (by decide) ?_|refine z_V (by decide) ?_)
  refine bi_gtr_c (fun g4 => ?_) (fun g4 => ?_)
  · (repeat with_reducible first|refine z_a ?_|refine z_b ?_|refine z_c ?_|refine z_d ?_|refine z_e ?_|refine z_f ?_|refine z_g ?_|refine z_h ?_|refine z_i ?_|refine z_j ?_|refine z_k ?_|refine z_l ?_|refine z_m (by omega) ?_|refine z_n (by omega) ?_|refine z_o (by omega) ?_|refine z_p (by omega) ?_|refine z_q (by omega) ?_|refine z_r (by omega) ?_|refine z_s (by omega) ?_|refine z_t (by omega) ?_|refine z_u (by omega) ?_|refine z_v (by omega) ?_|refine z_w (by omega) ?_|refine z_x (by omega) ?_|refine z_y (by omega) ?_|refine z_z (by omega) ?_|refine z_A ?_|refine z_B ?_|refine z_C ?_|refine z_D ?_|refine z_E ?_|refine z_F ?_|refine z_G ?_|refine z_H ?_|refine z_I ?_|refine z_J ?_|refine z_K (by omega) (by decide) ?_|refine z_L (by omega) (by decide) ?_|refine z_M (by omega) ?_|refine z_N (by omega) ?_|refine z_O (by omega) ?_|refine z_P ?_|refine z_Q ?_|refine z_R ?_|refine z_S ?_|refine z_T ?_|refine z_U (by decide) ?_|refine z_V (by decide) ?_)
    exact ⟨by first | rfl | trivial, hb1⟩
  (repeat with_reducible first|refine z_a ?_|refine z_b ?_|refine z_c ?_|refine z_d ?_|refine z_e ?_|refine z_f ?_|refine z_g ?_|refine z_h ?_|refine z_i ?_|refine z_j ?_|refine z_k ?_|refine z_l ?_|refine z_m (by omega) ?_|refine z_n (by omega) ?_|refine z_o (by omega) ?_|refine z_p (by omega) ?_|refine z_q (by omega) ?_|refine z_r (by omega) ?_|refine z_s (by omega) ?_|refine z_t (by omega) ?_|refine z_u (by omega) ?_|refine z_v (by omega) ?_|refine z_w (by omega) ?_|refine z_x (by omega) ?_|refine z_y (by omega) ?_|refine z_z (by omega) ?_|refine z_A ?_|refine z_B ?_|refine z_C ?_|refine z_D ?_|refine z_E ?_|refine z_F ?_|refine z_G ?_|refine z_H ?_|refine z_I ?_|refine z_J ?_|refine z_K (by omega) (by decide) ?_|refine z_L (by omega) (by decide) ?_|refine z_M (by omega) ?_|refine z_N (by omega) ?_|refine z_O (by omega) ?_|refine z_P ?_|refine z_Q ?_|refine z_R ?_|refine z_S ?_|refine z_T ?_|refine z_U (by decide) ?_|refine z_V (by decide) ?_)
  refine (new_mem wb).mono ?_
  rintro _ wd ⟨g, rfl, hM⟩
  have hM := hM.old hb1
  refine opsLoop hv (by omega) hM hm ?_
  intro w1 hM1 hok
  generalize doAll st0 l = S at *
  have hl' : l.length ≤ 60 := by omega
  generalize l.length = n at *
  obtain ⟨t, ht⟩ : ∃ t, t = from_.data.toList := ⟨_, rfl⟩
  have hts : Value.string from_ = tS t := by rw [ht, tS_of]
  have htl : t.length ≤ 15 := by rw [ht]; simp only [Array.length_toList]; show from_.data.size ≤ 15; have : from_.data.size = from_.size := rfl; omega
  rw [hts]
  have hto : to.size ≤ 16 := by omega
  obtain ⟨c1, hc1, hob⟩ := hM1.look
  have hS1 : PlS 1 c1 w1 g S := hob (pl1 g S) (by simp)
  have hmany := hok.many
  have hscl : (scanV S.R t to.data.toList).length ≤ 60 := by
    have : (scanV S.R t to.data.toList).length ≤ S.R.length := List.length_filter_le _ _
    omega
  refine bd (cells := opC (oS t to 64) sN) (by kernel_rfl) ?_
  refine (Do15 (hr := 3) hS1 hok (by omega) ⟨by decide, by decide⟩ (oS_at w1 (by omega) hto (by omega)) (hm.below hM1.bel)).mono ?_
  rintro _ w2 ⟨c2, hc2, hS2, ⟨vr2, vw2, M2, rfl, _, hR2, hM2⟩, hT2⟩
  rw [scan_ok S (by omega) hto (by omega)] at hS2 hM2
  have hM2 : M2.map mkr = (scanV S.R t to.data.toList).take 64 := hM2
  rw [List.take_of_length_le (by omega)] at hM2
  refine fld (o := 3) (by kernel_rfl) rfl ?_
  have hs1 := hM1.bel.size
  have hb2 : Below w.heap.size w w2 := hM1.bel.trans (hT2.below hs1 fun k hk e => by have e : c1 k = 1 := e; rw [hc1 k hk] at e; omega)
  refine JoinP.cut (fun vs w' => ∃ v G, vs = [v] ∧ PgI w w' g S vw2 M2 v G ∧ G.map mkr = scanV S.R t to.data.toList) ?_ ?_
  · intro J hJ
    refine LoopP.inv3 (fun gv av iv w' => ∃ (G : List Mm) (a : Txt) (i : Nat), av = tS a ∧ iv = .int .i64 i ∧ a.length ≤ 16 ∧ i ≤ G.length ∧ PgI w w' g S vw2 M2 gv G ∧ G.map mkr ++ scanV S.R a to.data.toList = scanV S.R t to.data.toList) (fun _ _ iv _ => 70 - (intOf iv).toNat) ⟨[], t, 0, rfl, rfl, by omega, Nat.zero_le _, ⟨c2, fun k hk => by rw [hc2 k (by omega), hc1 k hk], hS2, hb2, ⟨by simp, .inl ⟨rfl, rfl⟩⟩, InC.nil _ _ _ _, by simp, hR2⟩, by simp⟩ ?_
    rintro gv _ _ w3 ⟨G, a, i, rfl, rfl, hal, hiG, ⟨c3, hc3, hS3, hb3, hown3, hcv3, hG3, hR3⟩, hsum⟩ J2 hJ2
    dsimp only [List.headD_cons, List.tail_cons]
    have hGl : G.length ≤ 60 := by
      have := congrArg List.length hsum
      rw [List.length_append, List.length_map] at this
      omega
    refine bi_lss_t (by omega) ?_
    (repeat with_reducible first|refine z_a ?_|refine z_b ?_|refine z_c ?_|refine z_d ?_|refine z_e ?_|refine z_f ?_|refine z_g ?_|refine z_h ?_|refine z_i ?_|refine z_j ?_|refine z_k ?_|refine z_l ?_|refine z_m (by omega) ?_|refine z_n (by omega) ?_|refine z_o (by omega) ?_|refine z_p (by omega) ?_|refine z_q (by omega) ?_|refine z_r (by omega) ?_|refine z_s (by omega) ?_|refine z_t (by omega) ?_|refine z_u (by omega) ?_|refine z_v (by omega) ?_|refine z_w (by omega) ?_|refine z_x (by omega) ?_|refine z_y (by omega) ?_|refine z_z (by omega) ?_|refine z_A ?_|refine z_B ?_|refine z_C ?_|refine z_D ?_|refine z_E ?_|refine z_F ?_|refine z_G ?_|refine z_H ?_|refine z_I ?_|refine z_J ?_|refine z_K (by omega) (by decide) ?_|refine z_L (by omega) (by decide) ?_|refine z_M (by omega) ?_|refine z_N (by omega) ?_|refine z_O (by omega) ?_|refine z_P ?_|refine z_Q ?_|refine z_R ?_|refine z_S ?_|refine z_T ?_|refine z_U (by decide) ?_|refine z_V (by decide) ?_)
    refine bd (cells := opC (oS a to z) sN) (by kernel_rfl) ?_
    refine (Do15 (hr := 6) hS3 hok (by omega) ⟨by decide, by decide⟩ (oS_at w3 hal hto (by omega)) (hm.below hb3)).mono ?_
    rintro _ w4 ⟨c4, hc4, hS4, ⟨vr4, vw4, M4, rfl, _, hR4, hM4⟩, hT4⟩
    rw [scan_ok S hal hto (by omega)] at hS4 hM4
    have hM4 : M4.map mkr = (scanV S.R a to.data.toList).take z.toNat := hM4
    have hM4l := congrArg List.length hM4
    rw [List.length_map, List.length_take] at hM4l
    refine fld (o := 3) (by kernel_rfl) rfl ?_
    have hs3 := hb3.size
    have hs34 := hT4.size
    have hb4 : Below w.heap.size w w4 := hb3.trans (hT4.below hs3 fun k hk e => by have e : c3 k = 1 := e; rw [hc3 k hk] at e; omega)
    have hown4 := ownsRow_turns hown3 hT4 fun k hk (e : c3 k = 1) => by rw [hcv3 k hk] at e; omega
    have hcv4 : InC c4 5 gv := hcv3.re (fun b hb => ownsRow_lt hown3 hb) hc4
    have hG4 : ∀ m ∈ G, VS 6 c4 w4 m.2.1 m.2.2 := fun m hm => (((hG3 m hm).re hc4).turns hT4.cut fun k hk => by rw [hc4 k hk.2]; have : c3 k = 1 := hk.1; omega)
    have hR4' : RowsC 3 c4 w4 vw2 M2 := (hR3.re hc4).turns hT4.cut fun k hk => by rw [hc4 k hk.2]; have : c3 k = 1 := hk.1; omega
    have hscl4 : (scanV S.R a to.data.toList).length ≤ 60 := by
      have := congrArg List.length hsum
      rw [List.length_append] at this
      omega
    refine apRt undRw infRw (by rfl) (by decide) hown4 mmF_len (fun m hm => mmF_one (hR4.at.ms m hm)) (hR4.row.rd mmF_len fun _ _ => rfl) (by omega) (by omega) ?_
    intro v5 w5 hown5 hbl5 hT5
    have hcol := col_lt c4 w4.heap.size 5
    have hI5 : PgI w w5 g S vw2 M2 v5 (G ++ M4) := by
      have nG : ∀ k, gv.ownBlock = some k → c4 k = 5 := fun k hk => hcv4 k hk
      have nn : ∀ k, gv.ownBlock = some k → col c4 w4.heap.size 5 k = 5 := fun k hk => by rw [hcol k (ownsRow_lt hown4 hk), nG k hk]
      refine ⟨col c4 w4.heap.size 5, fun k hk => by rw [hcol k (by omega), hc4 k (by omega), hc3 k hk], (hS4.re hcol).turns hT5 fun k hk => by rw [nn k hk]; omega, hb4.trans (hT5.below hb4.size fun k hk e => by have := nG k e; rw [hc4 k (by omega), hc3 k hk] at this; omega), ?_, ?_, ?_, (hR4'.re hcol).turns hT5 fun k hk => by rw [nn k hk]; omega⟩
      · rw [List.length_append, List.flatMap_append]; exact hown5
      · intro k hk
        rcases hbl5 with e | e
        · rw [e] at hk; exact nn k hk
        · rw [e] at hk; cases hk; exact col_ge _ _ _ (Nat.le_refl _)
      · intro m hm
        rcases List.mem_append.1 hm with hm | hm
        · exact ((hG4 m hm).re hcol).turns hT5 fun k hk => by rw [nn k hk]; omega
        · exact ((hR4.ms m hm).re hcol).turns hT5 fun k hk => by rw [nn k hk]; omega
    have hR5 := hR4.row.turns' hT5 (F := fun j => gv.ownBlock = some j) fun k hk e => by
      have h1 := hR4.cv k hk
      have h2 := hcv4 k e
      omega
    obtain ⟨A4, cc4, rfl, _⟩ := hR4.row.slice
    refine ln undRw ?_
    refine bi_lss_c (fun h5 => ?_) (fun h5 => ?_)
    · (repeat with_reducible first|refine z_a ?_|refine z_b ?_|refine z_c ?_|refine z_d ?_|refine z_e ?_|refine z_f ?_|refine z_g ?_|refine z_h ?_|refine z_i ?_|refine z_j ?_|refine z_k ?_|refine z_l ?_|refine z_m (by omega) ?_|refine z_n (by omega) ?_|refine z_o (by omega) ?_|refine z_p (by omega) ?_|refine z_q (by omega) ?_|refine z_r (by omega) ?_|refine z_s (by omega) ?_|refine z_t (by omega) ?_|refine z_u (by omega) ?_|refine z_v (by omega) ?_|refine z_w (by omega) ?_|refine z_x (by omega) ?_|refine z_y (by omega) ?_|refine z_z (by omega) ?_|refine z_A ?_|refine z_B ?_|refine z_C ?_|refine z_D ?_|refine z_E ?_|refine z_F ?_|refine z_G ?_|refine z_H ?_|refine z_I ?_|refine z_J ?_|refine z_K (by omega) (by decide) ?_|refine z_L (by omega) (by decide) ?_|refine z_M (by omega) ?_|refine z_N (by omega) ?_|refine z_O (by omega) ?_|refine z_P ?_|refine z_Q ?_|refine z_R ?_|refine z_S ?_|refine z_T ?_|refine z_U (by decide) ?_|refine z_V (by decide) ?_)
      refine hJ _ _ ⟨_, _, rfl, hI5, ?_⟩
      rw [List.map_append, hM4, List.take_of_length_le (by omega)]
      exact hsum
    · have hpos : M4.length - 1 < M4.length := by omega
      obtain ⟨gx, cx, he, hcell⟩ := rowAt mmF_len hR5 (M4.length - 1) hpos (by decide)
      cases he
      (repeat with_reducible first|refine z_a ?_|refine z_b ?_|refine z_c ?_|refine z_d ?_|refine z_e ?_|refine z_f ?_|refine z_g ?_|refine z_h ?_|refine z_i ?_|refine z_j ?_|refine z_k ?_|refine z_l ?_|refine z_m (by omega) ?_|refine z_n (by omega) ?_|refine z_o (by omega) ?_|refine z_p (by omega) ?_|refine z_q (by omega) ?_|refine z_r (by omega) ?_|refine z_s (by omega) ?_|refine z_t (by omega) ?_|refine z_u (by omega) ?_|refine z_v (by omega) ?_|refine z_w (by omega) ?_|refine z_x (by omega) ?_|refine z_y (by omega) ?_|refine z_z (by omega) ?_|refine z_A ?_|refine z_B ?_|refine z_C ?_|refine z_D ?_|refine z_E ?_|refine z_F ?_|refine z_G ?_|refine z_H ?_|refine z_I ?_|refine z_J ?_|refine z_K (by omega) (by decide) ?_|refine z_L (by omega) (by decide) ?_|refine z_M (by omega) ?_|refine z_N (by omega) ?_|refine z_O (by omega) ?_|refine z_P ?_|refine z_Q ?_|refine z_R ?_|refine z_S ?_|refine z_T ?_|refine z_U (by decide) ?_|refine z_V (by decide) ?_)
      refine ln undRw ?_
      (repeat with_reducible first|refine z_a ?_|refine z_b ?_|refine z_c ?_|refine z_d ?_|refine z_e ?_|refine z_f ?_|refine z_g ?_|refine z_h ?_|refine z_i ?_|refine z_j ?_|refine z_k ?_|refine z_l ?_|refine z_m (by omega) ?_|refine z_n (by omega) ?_|refine z_o (by omega) ?_|refine z_p (by omega) ?_|refine z_q (by omega) ?_|refine z_r (by omega) ?_|refine z_s (by omega) ?_|refine z_t (by omega) ?_|refine z_u (by omega) ?_|refine z_v (by omega) ?_|refine z_w (by omega) ?_|refine z_x (by omega) ?_|refine z_y (by omega) ?_|refine z_z (by omega) ?_|refine z_A ?_|refine z_B ?_|refine z_C ?_|refine z_D ?_|refine z_E ?_|refine z_F ?_|refine z_G ?_|refine z_H ?_|refine z_I ?_|refine z_J ?_|refine z_K (by omega) (by decide) ?_|refine z_L (by omega) (by decide) ?_|refine z_M (by omega) ?_|refine z_N (by omega) ?_|refine z_O (by omega) ?_|refine z_P ?_|refine z_Q ?_|refine z_R ?_|refine z_S ?_|refine z_T ?_|refine z_U (by decide) ?_|refine z_V (by decide) ?_)
      rw [show (M4.length : Int) - 1 = ((M4.length - 1 : Nat) : Int) by omega]
      refine ixG undRw szRw (M4.length - 1) hpos ?_
      (repeat with_reducible first | refine fdG w0 (by decide) ?_|refine z_a ?_|refine z_b ?_|refine z_c ?_|refine z_d ?_|refine z_e ?_|refine z_f ?_|refine z_g ?_|refine z_h ?_|refine z_i ?_|refine z_j ?_|refine z_k ?_|refine z_l ?_|refine z_m (by omega) ?_|refine z_n (by omega) ?_|refine z_o (by omega) ?_|refine z_p (by omega) ?_|refine z_q (by omega) ?_|refine z_r (by omega) ?_|refine z_s (by omega) ?_|refine z_t (by omega) ?_|refine z_u (by omega) ?_|refine z_v (by omega) ?_|refine z_w (by omega) ?_|refine z_x (by omega) ?_|refine z_y (by omega) ?_|refine z_z (by omega) ?_|refine z_A ?_|refine z_B ?_|refine z_C ?_|refine z_D ?_|refine z_E ?_|refine z_F ?_|refine z_G ?_|refine z_H ?_|refine z_I ?_|refine z_J ?_|refine z_K (by omega) (by decide) ?_|refine z_L (by omega) (by decide) ?_|refine z_M (by omega) ?_|refine z_N (by omega) ?_|refine z_O (by omega) ?_|refine z_P ?_|refine z_Q ?_|refine z_R ?_|refine z_S ?_|refine z_T ?_|refine z_U (by decide) ?_|refine z_V (by decide) ?_)
      refine ld one9 (hcell 0 _ rfl) ?_
      refine lns und9 ?_
      refine bi_geq_c (fun h6 => ?_) (fun h6 => ?_)
      · (repeat with_reducible first|refine z_a ?_|refine z_b ?_|refine z_c ?_|refine z_d ?_|refine z_e ?_|refine z_f ?_|refine z_g ?_|refine z_h ?_|refine z_i ?_|refine z_j ?_|refine z_k ?_|refine z_l ?_|refine z_m (by omega) ?_|refine z_n (by omega) ?_|refine z_o (by omega) ?_|refine z_p (by omega) ?_|refine z_q (by omega) ?_|refine z_r (by omega) ?_|refine z_s (by omega) ?_|refine z_t (by omega) ?_|refine z_u (by omega) ?_|refine z_v (by omega) ?_|refine z_w (by omega) ?_|refine z_x (by omega) ?_|refine z_y (by omega) ?_|refine z_z (by omega) ?_|refine z_A ?_|refine z_B ?_|refine z_C ?_|refine z_D ?_|refine z_E ?_|refine z_F ?_|refine z_G ?_|refine z_H ?_|refine z_I ?_|refine z_J ?_|refine z_K (by omega) (by decide) ?_|refine z_L (by omega) (by decide) ?_|refine z_M (by omega) ?_|refine z_N (by omega) ?_|refine z_O (by omega) ?_|refine z_P ?_|refine z_Q ?_|refine z_R ?_|refine z_S ?_|refine z_T ?_|refine z_U (by decide) ?_|refine z_V (by decide) ?_)
        exact ⟨by first | rfl | trivial, by obtain ⟨_, _, _, h, _⟩ := hI5; exact h⟩
      have hlast : (M4[M4.length - 1]).1.length ≤ 15 := by
        have : ((⟨(M4[M4.length - 1]).1.toArray⟩ : ByteArray).size : Int) = (M4[M4.length - 1]).1.length := by
          show (((M4[M4.length - 1]).1.toArray.size : Nat) : Int) = _
          rw [List.size_toArray]
        omega
      (repeat with_reducible first|refine z_a ?_|refine z_b ?_|refine z_c ?_|refine z_d ?_|refine z_e ?_|refine z_f ?_|refine z_g ?_|refine z_h ?_|refine z_i ?_|refine z_j ?_|refine z_k ?_|refine z_l ?_|refine z_m (by omega) ?_|refine z_n (by omega) ?_|refine z_o (by omega) ?_|refine z_p (by omega) ?_|refine z_q (by omega) ?_|refine z_r (by omega) ?_|refine z_s (by omega) ?_|refine z_t (by omega) ?_|refine z_u (by omega) ?_|refine z_v (by omega) ?_|refine z_w (by omega) ?_|refine z_x (by omega) ?_|refine z_y (by omega) ?_|refine z_z (by omega) ?_|refine z_A ?_|refine z_B ?_|refine z_C ?_|refine z_D ?_|refine z_E ?_|refine z_F ?_|refine z_G ?_|refine z_H ?_|refine z_I ?_|refine z_J ?_|refine z_K (by omega) (by decide) ?_|refine z_L (by omega) (by decide) ?_|refine z_M (by omega) ?_|refine z_N (by omega) ?_|refine z_O (by omega) ?_|refine z_P ?_|refine z_Q ?_|refine z_R ?_|refine z_S ?_|refine z_T ?_|refine z_U (by decide) ?_|refine z_V (by decide) ?_)
      refine adT (b := [0]) (by simp only [List.length_cons, List.length_nil]; omega) ?_
      (repeat with_reducible first|refine z_a ?_|refine z_b ?_|refine z_c ?_|refine z_d ?_|refine z_e ?_|refine z_f ?_|refine z_g ?_|refine z_h ?_|refine z_i ?_|refine z_j ?_|refine z_k ?_|refine z_l ?_|refine z_m (by omega) ?_|refine z_n (by omega) ?_|refine z_o (by omega) ?_|refine z_p (by omega) ?_|refine z_q (by omega) ?_|refine z_r (by omega) ?_|refine z_s (by omega) ?_|refine z_t (by omega) ?_|refine z_u (by omega) ?_|refine z_v (by omega) ?_|refine z_w (by omega) ?_|refine z_x (by omega) ?_|refine z_y (by omega) ?_|refine z_z (by omega) ?_|refine z_A ?_|refine z_B ?_|refine z_C ?_|refine z_D ?_|refine z_E ?_|refine z_F ?_|refine z_G ?_|refine z_H ?_|refine z_I ?_|refine z_J ?_|refine z_K (by omega) (by decide) ?_|refine z_L (by omega) (by decide) ?_|refine z_M (by omega) ?_|refine z_N (by omega) ?_|refine z_O (by omega) ?_|refine z_P ?_|refine z_Q ?_|refine z_R ?_|refine z_S ?_|refine z_T ?_|refine z_U (by decide) ?_|refine z_V (by decide) ?_)
      refine hJ2 _ _ _ _ ⟨_, _, i + 1, rfl, by simp, by simp only [List.length_append, List.length_cons, List.length_nil]; omega, by rw [List.length_append]; omega, hI5, ?_⟩ (by simp [intOf]; omega)
      have hsl : M4.length - 1 < (scanV S.R a to.data.toList).length := by omega
      have hnx := scan_next hok.rising a to.data.toList (M4.length - 1) hsl
      have hl9 : (M4[M4.length - 1]).1 = (scanV S.R a to.data.toList)[M4.length - 1].1 := by
        have h1 : (M4.map mkr)[M4.length - 1]? = ((scanV S.R a to.data.toList).take z.toNat)[M4.length - 1]? := by rw [hM4]
        rw [List.getElem?_eq_getElem (by rw [List.length_map]; omega), mkr_at hpos, List.getElem?_take_of_lt (by omega), List.getElem?_eq_getElem hsl] at h1
        exact (congrArg Prod.fst (Option.some.inj h1) :)
      rw [hl9, hnx, show M4.length - 1 + 1 = z.toNat by omega, List.map_append, hM4, List.append_assoc, List.take_append_drop]
      exact hsum
  · rintro _ w6 ⟨v6, G, rfl, ⟨c6, hc6, hS6, hb6, hown6, hcv6, hG6, hR6⟩, hsum⟩
    dsimp only [List.headD_cons, List.tail_cons]
    refine (SameRows16 v6 vw2 G M2 w6 ⟨OwnR.of_own hown6, fun m hm => (hG6 m hm).rd⟩ hR6.at).mono ?_
    rintro _ w7 ⟨rfl, hb7⟩
    rw [decide_eq_true (hsum.trans hM2.symm)]
    exact ⟨by first | rfl | trivial, below_then hb6 hb7⟩
end Go.Proofs.YtonblppkidpmlaaGreatDoor.E
