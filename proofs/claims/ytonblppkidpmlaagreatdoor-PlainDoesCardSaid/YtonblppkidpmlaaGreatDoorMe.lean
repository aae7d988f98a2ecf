import Derived.Test.YtonblppkidpmlaaGreatDoorMd
namespace Go.Proofs.YtonblppkidpmlaaGreatDoor.E
open Go Go.RowKit
set_option linter.unusedSimpArgs false
set_option linter.unusedVariables false

section
variable {P : Program} {K : Value → World → Prop} {w : World}
theorem str_add (a b : List UInt8) : (⟨a.toArray⟩ : ByteArray) ++ ⟨b.toArray⟩ = ⟨(a ++ b).toArray⟩ := by
  apply ByteArray.ext
  rw [ByteArray.data_append]
  simp
theorem adT {ty : TypeId} {x y : Operand} {a b : List UInt8} (h : a.length + b.length ≤ 1000000) (k : K (tS (a ++ b)) w) : LiftP P (binS .add ty x y (tS a) (tS b)) K w := by
  refine lift (v := tS (a ++ b)) (w' := w) ?_ k
  have hs : (⟨a.toArray⟩ : ByteArray).size + (⟨b.toArray⟩ : ByteArray).size ≤ 9223372036854775807 := by
    show a.toArray.size + b.toArray.size ≤ _
    simp; omega
  have := run_string_add_sum (P := P) w ⟨a.toArray⟩ ⟨b.toArray⟩ hs
  rw [str_add] at this
  have h2 : (binOp .add ty (tS a) (tS b)).run P w = .ok (tS (a ++ b)) w := by
    unfold tS
    rw [binOp_string_add]; exact this
  rw [binS]
  simp [tS, eqGuard_at_string]
  exact h2
end
def entT (id : Int) (key : List ValT) (rk : List UInt8) : List UInt8 := [0, UInt8.ofNat id.toNat] ++ encVs key ++ [0] ++ rk
/-- A key that may stand in an index. -/
structure KeyOk (key : List ValT) : Prop where
  len : 1 ≤ key.length ∧ key.length ≤ 2
  good : key.all goodV = true
  full : ∀ x ∈ key, x.1 ≠ 0
theorem KeyOk.row {key : List ValT} (h : KeyOk key) : rowE key = 0 := rowE_0.2 ⟨by have := h.len; omega, h.good⟩
theorem all_true {l : List ValT} (h : l.all goodV = true) : l.any (fun x => !goodV x) = false := by rw [any_bad, h]; rfl
theorem KeyOk.noNull {key : List ValT} (h : KeyOk key) : key.any (fun x => decide (x.1 = 0)) = false := by
  rw [List.any_eq_false]
  intro x hx
  simpa using h.full x hx
theorem id2_spec (id : Int) (h : 1 ≤ id ∧ id ≤ 6) (w : World) : CallP Tryz.prog 96 #[.int .i64 id] (fun r w' => r = tS [0, UInt8.ofNat id.toNat] ∧ Below w.heap.size w w') w := by
  refine ⟨S96.calls _ _ _ ?_⟩
  unfold S96
  refine bi_shr (by omega) (by decide) ?_
  refine cv und3 und5 ?_
  refine cv und3 und5 ?_
  have e1 : IntKind.u8.wrap (id / 2 ^ (8 : Int).toNat) = 0 := by
    have : id / 2 ^ (8 : Int).toNat = 0 := by
      show id / 256 = 0
      omega
    rw [this]; rfl
  have e2 : IntKind.u8.wrap id = ((UInt8.ofNat id.toNat).toNat : Int) := by
    rw [← wrap_u8, Int.toNat_of_nonneg (by omega)]
  rw [e1, e2]
  refine lift (v := .slice (some ⟨w.heap.size, 0, none⟩) 2 2) (w' := w.alloc (.cells #[.int .u8 0, .int .u8 ((UInt8.ofNat id.toNat).toNat : Int)] 5)) (by kernel_rfl) ?_
  have ho := Own.new w 5 ([0, UInt8.ofNat id.toNat].map u8) (by simp)
  refine cvBS undBy und5 und9 (bs := [0, UInt8.ofNat id.toNat]) ho.rd ?_
  exact ⟨rfl, (Below.refl _ _).alloc (Nat.le_refl _) _⟩
theorem full92 (v : Value) (l : List ValT) (w : World) (hv : Vals w [v] l) : CallP Tryz.prog 92 #[v] (fun r w' => r = .bool (!(l.any fun x => decide (x.1 = 0))) ∧ w' = w) w := by
  obtain ⟨A, c, rfl, hc, hm⟩ := hv.slice
  refine ⟨S92.calls _ _ _ ?_⟩
  unfold S92
  refine LoopP.inv1 (fun iv w' => ∃ k : Nat, k ≤ l.length ∧ iv = .int .i64 k ∧ (l.take k).any (fun x => decide (x.1 = 0)) = false ∧ w = w') (fun iv _ => l.length - (intOf iv).toNat) ⟨0, by omega, rfl, by simp, rfl⟩ ?_
  rintro _ _ ⟨k, hk, rfl, hany, rfl⟩ J hJ
  dsimp only [List.headD_cons, List.tail_cons]
  refine ln undVs ?_
  refine bi_lss_c (fun h => ?_) (fun h => ?_)
  · have hk' : k < l.length := by omega
    obtain ⟨a, us, rfl, hus, hcell, hrd⟩ := rRow.at hv k hk'
    obtain ⟨rfl, _⟩ := val_cells hrd
    (repeat with_reducible first|refine z_b ?_)
    refine ixN undVs szVal k hk' ?_
    refine fdA v0 (by decide) ?_
    refine ld one3 (hcell 0 _ rfl) ?_
    refine bi_eql_c (fun h2 => ?_) (fun h2 => ?_)
    · (repeat with_reducible first|refine z_b ?_)
      have : (l.any fun x => decide (x.1 = 0)) = true := List.any_eq_true.2 ⟨l[k], List.getElem_mem hk', decide_eq_true h2⟩
      exact ⟨by rw [this]; rfl, rfl⟩
    · (repeat with_reducible first|refine z_c ?_|refine z_o (by omega) ?_)
      exact hJ _ _ ⟨k + 1, by omega, by simp, by rw [any_take _ l k hk', hany, decide_eq_false h2]; rfl, rfl⟩ (by simp [intOf]; omega)
  · have hkl : k = l.length := by omega
    subst hkl
    rw [List.take_length] at hany
    (repeat with_reducible first|refine z_c ?_)
    exact ⟨by rw [hany]; rfl, rfl⟩
theorem bE3 (w : World) (a b c : Int) : (Instr.buildSlice 126 3 #[(0, .int .i64 a), (1, .int .i64 b), (2, .int .i64 c)]).run Tryz.prog w = .ok (.slice (some ⟨w.heap.size, 0, none⟩) 3 3) (w.alloc (.cells #[.int .i64 a, .int .i64 b, .int .i64 c] 29)) := by kernel_rfl
theorem keyV_0 {l : List ValT} (h : rowE l = 0) : keyV l = .tuple #[tS (encVs l), .int .i64 0] := by unfold keyV; rw [if_pos h, h]; rfl
theorem ent_len {key : List ValT} (h : KeyOk key) : (encVs key).length ≤ 134 := by
  have := encVs_length h.good
  have := h.len
  omega
theorem Entry79 (id : Int) (vk : Value) (key : List ValT) (rk : List UInt8) (w : World) (hid : 1 ≤ id ∧ id ≤ 6) (hk : Vals w [vk] key) (hko : KeyOk key) (hrk : 1 ≤ rk.length ∧ rk.length ≤ 16) (hm : GMx w) :
    CallP Tryz.prog 79 #[.int .i64 id, vk, tS rk] (fun r w' => r = .tuple #[tS (entT id key rk), .int .i64 0] ∧ Below w.heap.size w w') w := by
  obtain ⟨A, c, rfl, hc, hmx⟩ := hk.slice
  have hl := hko.len
  refine ⟨S79.calls _ _ _ _ _ ?_⟩
  unfold S79
  refine (number53 id w).mono ?_
  rintro _ _ ⟨rfl, rfl⟩
  rw [decide_eq_true hid]
  refine bi_T ?_
  simp only [Bool.not_true]
  (repeat with_reducible first|refine z_d ?_)
  refine ln undVs ?_
  (repeat with_reducible first|refine z_d ?_|refine z_l ?_|refine z_r (by omega) ?_)
  refine (when_spec _ _ w).mono ?_
  rintro _ w ⟨rfl, rfl⟩
  refine ln undVs ?_
  (repeat with_reducible first|refine z_v (by omega) ?_)
  refine (when_spec _ _ w).mono ?_
  rintro _ w ⟨rfl, rfl⟩
  refine (containsV bad_tells _ key w hk).mono ?_
  rintro _ w1 ⟨rfl, hb1⟩
  rw [all_true hko.good]
  (repeat with_reducible first|refine z_d ?_)
  refine (containsV null_tells _ key w1 (keeps_Vals _ _ _ _ hb1 hk)).mono ?_
  rintro _ w2 ⟨rfl, hb2⟩
  have hb02 := below_then hb1 hb2
  rw [hko.noNull]
  (repeat with_reducible first|refine z_d ?_|refine z_l ?_)
  refine (key_spec ⟨rk.toArray⟩ w2).mono ?_
  rintro _ w2 ⟨rfl, rfl⟩
  have hkey : keyOk ⟨rk.toArray⟩ = true := by
    unfold keyOk
    rw [decide_eq_true_iff]
    show 1 ≤ rk.toArray.size ∧ rk.toArray.size ≤ 16
    simpa using hrk
  rw [hkey]
  (repeat with_reducible first|refine z_d ?_|refine z_l ?_|refine z_E ?_)
  refine (when_spec _ _ w2).mono ?_
  rintro _ w2 ⟨rfl, rfl⟩
  refine bsO (xs := iV [0, 0, 0]) (bE3 w2 0 0 0) rfl (by decide) ?_
  intro v3 w3 ho3 _ hb3
  have hb03 := below_then hb02 hb3
  refine (first_spec v3 [0, 0, 0] w3 ho3.rd).mono ?_
  rintro _ w3 ⟨rfl, rfl⟩
  rw [show firstE [0, 0, 0] = 0 from rfl]
  (repeat with_reducible first|refine z_c ?_|refine z_t (by omega) ?_)
  refine (Key64 _ key w3 (keeps_Vals _ _ _ _ hb03 hk) (hm.below hb03)).mono ?_
  rintro _ w4 ⟨rfl, hb4⟩
  rw [keyV_0 hko.row]
  (repeat with_reducible first|refine z_A ?_|refine z_B ?_)
  refine (id2_spec id hid w4).mono ?_
  rintro _ w5 ⟨rfl, hb5⟩
  have := ent_len hko
  refine adT (by simp; omega) ?_
  refine adT (b := [0]) (by simp; omega) ?_
  refine adT (by simp; omega) ?_
  exact ⟨rfl, below_then (below_then hb03 hb4) hb5⟩
theorem Entry76 (id : Int) (vk : Value) (key : List ValT) (rk : List UInt8) (w : World) (hid : 1 ≤ id ∧ id ≤ 6) (hk : Vals w [vk] key) (hko : KeyOk key) (hrk : 1 ≤ rk.length ∧ rk.length ≤ 16) :
    CallP Tryz.prog 76 #[.int .i64 id, vk, tS rk] (fun r w' => r = .tuple #[tS (entT id key rk), .int .i64 0] ∧ Below w.heap.size w w') w := by
  obtain ⟨A, c, rfl, hc, hmx⟩ := hk.slice
  have hl := hko.len
  refine ⟨S76.calls _ _ _ _ _ ?_⟩
  unfold S76
  (repeat with_reducible first|refine z_d ?_|refine z_l ?_|refine z_n (by omega) ?_|refine z_v (by omega) ?_)
  refine ln undVs ?_
  (repeat with_reducible first|refine z_c ?_|refine z_d ?_|refine z_l ?_|refine z_r (by omega) ?_)
  refine ln undVs ?_
  (repeat with_reducible first|refine z_c ?_|refine z_v (by omega) ?_)
  refine (Key91 _ key w hk).mono ?_
  rintro _ w1 ⟨rfl, hb1⟩
  rw [keyV_0 hko.row]
  (repeat with_reducible first|refine z_d ?_|refine z_t (by omega) ?_|refine z_A ?_|refine z_B ?_)
  refine (full92 _ key w1 (keeps_Vals _ _ _ _ hb1 hk)).mono ?_
  rintro _ w1 ⟨rfl, rfl⟩
  rw [hko.noNull]
  simp only [Bool.not_false]
  (repeat with_reducible first|refine z_d ?_|refine z_l ?_|refine z_E ?_)
  refine (refKey_spec ⟨rk.toArray⟩ w1).mono ?_
  rintro _ w1 ⟨rfl, rfl⟩
  have hkey : keyOk ⟨rk.toArray⟩ = true := by
    unfold keyOk
    rw [decide_eq_true_iff]
    show 1 ≤ rk.toArray.size ∧ rk.toArray.size ≤ 16
    simpa using hrk
  rw [hkey]
  (repeat with_reducible first|refine z_c ?_|refine z_d ?_|refine z_l ?_|refine z_E ?_)
  refine cv und3 und5 ?_
  have e2 : IntKind.u8.wrap id = ((UInt8.ofNat id.toNat).toNat : Int) := by
    rw [← wrap_u8, Int.toNat_of_nonneg (by omega)]
  rw [e2]
  refine lift (v := .slice (some ⟨w1.heap.size, 0, none⟩) 2 2) (w' := w1.alloc (.cells #[.int .u8 0, .int .u8 ((UInt8.ofNat id.toNat).toNat : Int)] 5)) (by kernel_rfl) ?_
  have ho := Own.new w1 5 ([0, UInt8.ofNat id.toNat].map u8) (by simp)
  refine cvBS undBy und5 und9 (bs := [0, UInt8.ofNat id.toNat]) ho.rd ?_
  have := ent_len hko
  refine adT (a := [0, UInt8.ofNat id.toNat]) (by simp; omega) ?_
  refine adT (b := [0]) (by simp; omega) ?_
  refine adT (by simp; omega) ?_
  exact ⟨rfl, below_then hb1 ((Below.refl _ _).alloc (Nat.le_refl _) _)⟩
end Go.Proofs.YtonblppkidpmlaaGreatDoor.E
