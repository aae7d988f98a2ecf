import Derived.Test.YtonblppkidpmlaaGreatDoorMb
namespace Go.Proofs.YtonblppkidpmlaaGreatDoor.E
open Go Go.RowKit
set_option linter.unusedSimpArgs false
set_option linter.unusedVariables false

structure OwnL {α : Type} (f : α → List Value) (s : Nat) (e : TypeId) (w0 w : World) (v : Value) (l : List α) : Prop where
  own : w.ownsRow 0 e s v l.length (l.flatMap f)
  fresh : Fresh w0.heap.size v
  bel : Below w0.heap.size w0 w
section
variable {α : Type} {f : α → List Value} {s : Nat} {e : TypeId} {w0 w w1 : World} {v : Value} {l : List α}
theorem OwnL.nil (hb : Below w0.heap.size w0 w) : OwnL f s e w0 w (.slice none 0 0) [] := ⟨⟨by simp, .inl ⟨rfl, rfl⟩⟩, Fresh.nil _, hb⟩
theorem OwnL.kept (h : OwnL f s e w0 w v l) (hb : Below w.heap.size w w1) : OwnL f s e w0 w1 v l :=
  ⟨ownsRow_turns h.own (Turns.of_below (F := fun _ => False) hb) (fun _ _ h => h), h.fresh, below_then h.bel hb⟩
theorem OwnL.slice (h : OwnL f s e w0 w v l) : ∃ A c, v = .slice A l.length c ∧ l.length ≤ c := by
  rcases h.own.2 with ⟨rfl, h0⟩ | ⟨g, c, cur, rfl, _, _, h2, _⟩
  · exact ⟨none, 0, by rw [h0], by omega⟩
  · exact ⟨_, c, rfl, h2⟩
theorem OwnL.rd {r : Rdr α} (h : OwnL f s e w0 w v l) (hf : ∀ x, (f x).length = s) (hr : ∀ x ∈ l, r w (f x) x) : rRow s r w [v] l := (OwnR.of_own h.own).rd hf hr
theorem OwnL.old {w0' : World} (h : OwnL f s e w0 w v l) (hb : Below w0'.heap.size w0' w0) : OwnL f s e w0' w v l :=
  ⟨h.own, fun k hk => Nat.le_trans hb.size (h.fresh k hk), below_then hb h.bel⟩
/-- One more. -/
theorem OwnL.push {P : Program} {K : Value → World → Prop} {t ty : TypeId} {cs : Array Bool} {z : Value} {bytes : Nat} (hu : P.underlying t = some (.slice e)) (hinfo : (P.info? e).map (fun i => (i.zero, i.size, i.bytes)) = some (some z, s, bytes)) (hz : z.cells.size = s) (hs : 0 < s) (hf : ∀ x, (f x).length = s)
    (h1 : ∀ x, ∀ u ∈ f x, u.oneCell' = true) (h : OwnL f s e w0 w v l) (hl : l.length ≤ 1000000) (hby : bytes ≤ 1000) (x : α)
    (hb : (Instr.buildSlice t 1 #[(0, .agg (f x).toArray)]).run P w = .ok (.slice (some ⟨w.heap.size, 0, none⟩) 1 1) (w.alloc (.cells (f x).toArray e)))
    (k : ∀ v' w', OwnL f s e w0 w' v' (l ++ [x]) → K v' w') :
    LiftP P (Instr.buildSlice t 1 #[(0, .agg (f x).toArray)]) (fun u w => NextP P (builtin .append #[t, t] ty cs #[v, u]) K w) w := by
  refine apOne (us := f x) hu hinfo hz hs h.own (hf _) (h1 _) (by omega) (Nat.le_trans (Nat.mul_le_mul (show l.length + 1 ≤ 1000001 by omega) hby) (by decide)) hb ?_
  intro v2 w2 ho2 hbl2 hT2
  have e : (l ++ [x]).flatMap f = l.flatMap f ++ f x := by simp
  refine k v2 w2 ⟨by rw [e, List.length_append]; exact ho2, h.fresh.one h.bel.size hbl2, h.bel.trans (hT2.fresh h.fresh h.bel.size)⟩
end
theorem valF_len (x : ValT) : (valF x).length = 3 := rfl
abbrev OwnV := OwnL valF 3 67
theorem OwnL.vals {w0 w : World} {v : Value} {l : List ValT} (h : OwnV w0 w v l) (hok : ∀ x ∈ l, valOk x) : Vals w [v] l := h.rd valF_len fun x hx => rVal_of (hok x hx)
theorem OwnL.pushV {K : Value → World → Prop} {w0 w : World} {v : Value} {l : List ValT} (h : OwnV w0 w v l) (hl : l.length ≤ 1000000) (x : ValT) (k : ∀ v' w', OwnV w0 w' v' (l ++ [x]) → K v' w') :
    LiftP Tryz.prog (Instr.buildSlice 22 1 #[(0, .agg (valF x).toArray)]) (fun u w => NextP Tryz.prog (builtin .append #[22, 22] 22 #[false, false] #[v, u]) K w) w :=
  h.push undVs infVal (by rfl) (by decide) valF_len valF_one hl (by omega) x (by kernel_rfl) k
def shown (rec : List ValT) : List Int → Option (List ValT)
  | [] => some []
  | f :: r => match rec[f.toNat]? with
    | none => none
    | some x => if x.1 = 0 then none else (shown rec r).map (x :: ·)
noncomputable def showV (id : Int) (fs : List Int) (rec : List ValT) : Option (List ValT) := if ckX id fs ≠ 0 ∨ recE rec ≠ 0 then none else shown rec fs
/-- What Shows answers. -/
structure ShowR (w w' : World) (r : Value) (o : Option (List ValT)) : Prop where
  bel : Below w.heap.size w w'
  no : o = none → r = .tuple #[.slice none 0 0, .bool false]
  yes : ∀ key, o = some key → (∃ v, r = .tuple #[v, .bool true] ∧ OwnV w w' v key) ∧ ∀ x ∈ key, valOk x
theorem shown_ok {rec : List ValT} (hok : ∀ x ∈ rec, valOk x) : ∀ (fs : List Int) (key : List ValT), shown rec fs = some key → (∀ x ∈ key, valOk x ∧ x ∈ rec ∧ x.1 ≠ 0) ∧ key.length = fs.length
  | [], key, h => by cases h; simp
  | f :: r, key, h => by
    unfold shown at h
    split at h
    · cases h
    · rename_i x hx
      split at h
      · cases h
      · rename_i h0
        obtain ⟨key', hk, rfl⟩ := Option.map_eq_some_iff.1 h
        have ih := shown_ok hok r key' hk
        refine ⟨fun y hy => ?_, by simp [ih.2]⟩
        rcases List.mem_cons.1 hy with rfl | hy
        · exact ⟨hok _ (List.mem_of_getElem? hx), List.mem_of_getElem? hx, h0⟩
        · exact ih.1 y hy
theorem ckX_0 {id : Int} {fs : List Int} (h : ckX id fs = 0) : (1 ≤ id ∧ id ≤ 6) ∧ 1 ≤ fs.length ∧ fs.length ≤ 2 ∧ ckF fs := by
  unfold ckX at h
  split at h
  · rename_i h1
    exact ⟨h1, ckI_len h⟩
  · omega
/-- A step of the walk along the fields: acc is what is shown so far. -/
theorem shown_step {rec : List ValT} {fs : List Int} {acc : List ValT} {k : Nat} (hk : k < fs.length) (h : shown rec fs = (shown rec (fs.drop k)).map (acc ++ ·)) :
    (rec[fs[k].toNat]? = none → shown rec fs = none) ∧ (∀ x, rec[fs[k].toNat]? = some x → (x.1 = 0 → shown rec fs = none) ∧ (x.1 ≠ 0 → shown rec fs = (shown rec (fs.drop (k + 1))).map (acc ++ [x] ++ ·))) := by
  rw [List.drop_eq_getElem_cons hk, shown] at h
  constructor
  · intro e; rw [h, e]; rfl
  · intro x e
    rw [e] at h
    constructor
    · intro h0
      simp only [h0, ↓reduceIte, Option.map_none] at h
      exact h
    · intro h0
      simp only [h0, ↓reduceIte, Option.map_map] at h
      rw [h]
      congr 1
      funext y
      simp
theorem aggIx : aggB Tryz.prog 53 = true := by kernel_rfl
theorem szIx : (Tryz.prog.info? 53).map (·.size) = some 2 := by kernel_rfl
theorem Shows77 (id : Int) (vf : Value) (fs : List Int) (vr : Value) (rec : List ValT) (w : World) (hf : Rd w vf (iV fs)) (hr : Vals w [vr] rec) :
    CallP Tryz.prog 77 #[.agg #[.int .i64 id, vf], vr] (fun r w' => ShowR w w' r (showV id fs rec)) w := by
  have hok := vals_ok hr
  have hf0 := hf
  obtain ⟨A, c, rfl, hc, hm⟩ := hf.slice
  obtain ⟨B, d, rfl, hd, hmd⟩ := hr.slice
  have hlen : (iV fs).length = fs.length := List.length_map _
  rw [hlen] at hf hf0 hc ⊢
  refine ⟨S77.calls _ _ _ _ ?_⟩
  unfold S77
  refine bxB ?_
  intro g w1 hg1 hB1 hb1
  refine ldA aggIx hB1 (by exact szIx) ?_
  refine (CheckIndex27 id _ fs w1 (hf0.below hb1)).mono ?_
  rintro _ w2 ⟨rfl, hb2⟩
  have hb12 := below_then hb1 hb2
  refine (check_spec _ rec w2 (keeps_Vals _ _ _ _ hb12 hr)).mono ?_
  rintro _ w3 ⟨rfl, hb3⟩
  have hb13 := below_then hb12 hb3
  refine bs2I bE2 ?_
  intro v4 w4 ho4 _ hb4
  have hb14 := below_then hb13 hb4
  refine (first_spec v4 [_, _] w4 ho4.rd).mono ?_
  rintro _ w4 ⟨rfl, rfl⟩
  have efst : firstE [ckX id fs, recE rec] = 0 ↔ ¬ (ckX id fs ≠ 0 ∨ recE rec ≠ 0) := by
    simp only [firstE]
    split
    · omega
    · split <;> omega
  refine bi_neq_c (fun h0 => ?_) (fun h0 => ?_)
  · (repeat with_reducible first|refine z_b ?_)
    have : showV id fs rec = none := by unfold showV; rw [if_pos (Classical.not_not.1 fun h => h0 (efst.2 h))]
    exact ⟨hb14, fun _ => rfl, fun key h => by rw [this] at h; cases h⟩
  have hno := efst.1 h0
  have hsv : showV id fs rec = shown rec fs := by unfold showV; rw [if_neg hno]
  obtain ⟨_, _, hl2, hckF⟩ := ckX_0 (id := id) (fs := fs) (Classical.not_not.1 fun h => hno (.inl h))
  rw [hsv]
  have q1 : ∀ w', Below w1.heap.size w1 w' → w'.cell? ⟨g, 1, none⟩ = some (.slice A fs.length c) := fun w' h => (hB1.below' h).cell 1
  (repeat with_reducible first|refine fd x1 (by decide) ?_|refine ld oneIs (q1 _ (below_then (below_then hb2 hb3) hb4)) ?_|refine ln undIs ?_|refine z_c ?_)
  refine LoopP.inv2 (fun rv iv w' => ∃ (k : Nat) (acc : List ValT), k ≤ fs.length ∧ iv = .int .i64 k ∧ acc.length = k ∧ shown rec fs = (shown rec (fs.drop k)).map (acc ++ ·) ∧ OwnV w w' rv acc) (fun _ iv _ => fs.length - (intOf iv).toNat) ⟨0, [], by omega, rfl, rfl, by simp, OwnL.nil hb14⟩ ?_
  rintro rv _ w5 ⟨k, acc, hk, rfl, hacc, hsh, ho5⟩ J hJ
  dsimp only [List.headD_cons, List.tail_cons]
  refine bi_lss_c (fun h => ?_) (fun h => ?_)
  · have hk' : k < fs.length := by omega
    have hst := shown_step hk' hsh
    obtain ⟨a, rfl, hca⟩ := Rd.atI (hf0.below ho5.bel) k hk'
    have hb := hckF.1 _ (List.getElem_mem hk')
    (repeat with_reducible first|refine z_b ?_)
    refine ix1 undIs szI hk' ?_
    refine ld oneI hca ?_
    refine ln undRec ?_
    refine bi_geq_c (fun h1 => ?_) (fun h1 => ?_)
    · (repeat with_reducible first|refine z_b ?_|refine z_f ?_|refine z_k ?_)
      have e : shown rec fs = none := hst.1 (List.getElem?_eq_none (by omega))
      exact ⟨ho5.bel, fun _ => rfl, fun key h => by rw [e] at h; cases h⟩
    obtain ⟨n, hn, hfn⟩ : ∃ n : Nat, n < rec.length ∧ fs[k] = n := ⟨fs[k].toNat, by omega, by omega⟩
    rw [hfn] at hst ⊢
    have hst2 := hst.2 rec[n] (List.getElem?_eq_getElem hn)
    obtain ⟨a', us, rfl, hus, hcell, hrd⟩ := rRow.at (keeps_Vals _ _ _ _ ho5.bel hr) n hn
    obtain ⟨rfl, _⟩ := val_cells hrd
    (repeat with_reducible first|refine z_d ?_)
    refine ixN undRec szVal n hn ?_
    (repeat with_reducible first|refine z_d ?_)
    refine fdA v0 (by decide) ?_
    (repeat with_reducible first|refine z_d ?_)
    refine ld one3 (hcell 0 _ rfl) ?_
    (repeat with_reducible first|refine z_d ?_)
    refine bi_eql_c (fun h2 => ?_) (fun h2 => ?_)
    · (repeat with_reducible first|refine z_b ?_|refine z_l ?_)
      have e := hst2.1 h2
      exact ⟨ho5.bel, fun _ => rfl, fun key h => by rw [e] at h; cases h⟩
    (repeat with_reducible first|refine z_c ?_|refine z_l ?_)
    refine ixN undRec szVal n hn ?_
    refine ldR aggVal hcell (by rw [szVal]; rfl) ?_
    refine ho5.pushV (by omega) rec[n] ?_
    intro v6 w6 ho6
    (repeat with_reducible first|refine z_o (by omega) ?_)
    exact hJ _ _ _ ⟨k + 1, acc ++ [rec[n]], by omega, by simp, by simp [hacc], hst2.2 h2, ho6⟩ (by simp [intOf]; omega)
  · have : k = fs.length := by omega
    subst this
    rw [List.drop_length] at hsh
    have e : shown rec fs = some acc := by rw [hsh]; simp [shown]
    (repeat with_reducible first|refine z_c ?_)
    refine ⟨ho5.bel, fun h => (by rw [e] at h; cases h), fun key h => ?_⟩
    rw [e] at h
    cases h
    exact ⟨⟨_, rfl, ho5⟩, fun x hx => ((shown_ok hok fs acc e).1 x hx).1⟩
end Go.Proofs.YtonblppkidpmlaaGreatDoor.E
