/- OnceNever: a request that was answered is never new again. -/
import Derived.Test.YtmnaggdhkggjhaaOnQ
import Derived.Test.YtmnaggdhkggjhaaShOnce3
namespace Go.Proofs.Ytmnaggdhkggjhaa.E
open Go Go.RowKit
set_option linter.unusedSimpArgs false
set_option linter.unusedVariables false

/-! ### known, or too old -/
def KnownV (v : VC) (m : Int) : Prop := m ≤ v.1 ∨ m ∈ v.2.map (·.1)
theorem cutR_small (fl : Int) (l : List (Int × Rm)) (h : l.length ≤ 4) : cutR fl l = (fl, l) := by
  cases l with
  | nil => rfl
  | cons p r => rw [cutR, if_neg (by omega)]
theorem cutV_R (fl : Int) (l : List (Int × Rm)) (h : l.length ≤ 5) : cutV fl l = cutR fl l := by
  cases l with
  | nil => rfl
  | cons p r =>
    unfold cutV
    rw [cutR]
    simp only
    split
    · rw [cutR_small p.1 r (by simp at h; omega)]
    · rfl
theorem cutR_fl : ∀ (l : List (Int × Rm)) (fl : Int), Rising l → (∀ p ∈ l, fl < p.1) → fl ≤ (cutR fl l).1
  | [], fl, _, _ => Int.le_refl _
  | p :: r, fl, h1, h2 => by
    rw [cutR]
    split
    · have h3 := h2 p (by simp)
      obtain ⟨g1, g2⟩ := List.pairwise_cons.1 h1
      have := cutR_fl r p.1 g2 fun q hq => g1 q hq
      omega
    · exact Int.le_refl _
theorem cutR_known : ∀ (l : List (Int × Rm)) (fl m : Int), Rising l → (∀ p ∈ l, fl < p.1) → m ∈ l.map (·.1) → KnownV (cutR fl l) m
  | [], fl, m, _, _, h => by simp at h
  | p :: r, fl, m, h1, h2, h => by
    rw [cutR]
    split
    · obtain ⟨g1, g2⟩ := List.pairwise_cons.1 h1
      rw [List.map_cons] at h
      rcases List.mem_cons.1 h with e | h
      · left
        have := cutR_fl r p.1 g2 fun q hq => g1 q hq
        omega
      · exact cutR_known r p.1 m g2 (fun q hq => g1 q hq) h
    · exact .inr h
theorem putV_known {v : VC} (h : GoodV v) {n : Int} {x : Rm} (hn : v.1 < n) (hne : ∀ p ∈ v.2, p.1 ≠ n) (m : Int) (hm : m = n ∨ KnownV v m) : KnownV (putV v n x) m := by
  have hr := insK_rising n x v.2 h.rise hne
  have hab : ∀ p ∈ insK n x v.2, v.1 < p.1 := fun p hp => by
    rcases List.mem_cons.1 ((insK_perm n x v.2).mem_iff.1 hp) with rfl | hp
    · exact hn
    · exact h.above p hp
  unfold putV
  rw [cutV_R _ _ (by rw [insK_len]; have := h.len; omega)]
  have hk : ∀ j, j ∈ (insK n x v.2).map (·.1) ↔ j = n ∨ j ∈ v.2.map (·.1) := fun j => by
    rw [((insK_perm n x v.2).map (·.1)).mem_iff]
    simp
  rcases hm with rfl | hm | hm
  · exact cutR_known _ _ _ hr hab ((hk _).2 (.inl rfl))
  · left
    have := cutR_fl _ _ hr hab
    omega
  · exact cutR_known _ _ _ hr hab ((hk _).2 (.inr hm))
theorem joinV_known {va vb : VC} (ha : GoodV va) (hb : GoodV vb) (m : Int) (h : KnownV va m ∨ KnownV vb m) : KnownV (joinV va vb) m := by
  have hr := (mergeR_rising ha.rise hb.rise).filter fun p => decide (max va.1 vb.1 < p.1)
  have hab : ∀ p ∈ (mergeR va.2 vb.2).filter (fun p => decide (max va.1 vb.1 < p.1)), max va.1 vb.1 < p.1 := fun p hp => by simpa using (List.mem_filter.1 hp).2
  have hfl := cutR_fl _ _ hr hab
  unfold joinV
  by_cases hle : m ≤ max va.1 vb.1
  · left; omega
  · have hmem : m ∈ (mergeR va.2 vb.2).map (·.1) := by
      have hget : (getK m (mergeR va.2 vb.2)).isSome = true := by
        rw [mergeR_get ha.rise hb.rise]
        have some_of : ∀ {l : List (Int × Rm)}, m ∈ l.map (·.1) → (getK m l).isSome = true := fun {l} hm => by
          cases hx : getK m l with
          | some _ => rfl
          | none =>
            obtain ⟨p, hp, e⟩ := List.mem_map.1 hm
            exact absurd e (getK_none_mem m l hx p hp)
        rcases h with (h | h) | (h | h)
        · omega
        · have := some_of h
          cases hx : getK m va.2 with
          | some _ => rfl
          | none => rw [hx] at this; cases this
        · omega
        · have := some_of h
          cases hx : getK m va.2 with
          | some _ => rfl
          | none => exact this
      obtain ⟨x, hx⟩ := Option.isSome_iff_exists.1 hget
      exact List.mem_map.2 ⟨(m, x), getK_mem _ _ _ hx, rfl⟩
    refine cutR_known _ _ _ hr hab ?_
    obtain ⟨p, hp, e⟩ := List.mem_map.1 hmem
    exact List.mem_map.2 ⟨p, List.mem_filter.2 ⟨hp, by simp only [decide_eq_true_eq]; omega⟩, e⟩
theorem keepQ_known {V : Int → VC} (hg : ∀ id, GoodV (V id)) (id n : Int) (R : Rep) (vs : List ValT) (rows : Nat) (i m : Int) (h : KnownV (V i) m) : KnownV ((keepQ V id n R vs rows).2 i) m := by
  unfold keepQ
  split
  · exact h
  · rename_i harg
    split
    · exact h
    · rename_i h12
      split
      · exact h
      · rename_i h0
        obtain ⟨_, _, h3, h4⟩ := lookQ_new (lookQ_bad (argP_bad (by simpa using harg))) h12 h0
        show KnownV (setV V id _ i) m
        unfold setV
        split
        · rename_i e
          subst e
          exact putV_known (hg i) h3 h4 m (.inr h)
        · exact h
theorem keepQ_new {V : Int → VC} (hg : ∀ id, GoodV (V id)) (id n : Int) (R : Rep) (vs : List ValT) (rows : Nat) (h : (keepQ V id n R vs rows).1 = 0) : badP id n = false ∧ KnownV ((keepQ V id n R vs rows).2 id) n := by
  unfold keepQ at h ⊢
  split at h
  · cases h
  · rename_i harg
    rw [if_neg harg]
    split at h
    · cases h
    · rename_i h12
      rw [if_neg h12]
      split at h
      · cases h
      · rename_i h0
        rw [if_neg h0]
        have hbad := argP_bad (by simpa using harg)
        obtain ⟨_, _, h3, h4⟩ := lookQ_new (lookQ_bad hbad) h12 h0
        refine ⟨hbad, ?_⟩
        show KnownV (setV V id _ id) n
        rw [setV_same]
        exact putV_known (hg id) h3 h4 n (.inl rfl)
theorem look_known {V : Int → VC} {id n : Int} (hb : badP id n = false) (h : KnownV (V id) n) : (lookQ V id n).1 = 0 ∨ (lookQ V id n).1 = 12 := by
  rw [lookQ, if_neg (by rw [hb]; exact Bool.false_ne_true)]
  unfold lookV
  split
  · exact .inr rfl
  · rename_i hle
    left
    rcases h with h | h
    · exact absurd h hle
    · cases hx : getK n (V id).2 with
      | some _ => rfl
      | none =>
        obtain ⟨p, hp, e⟩ := List.mem_map.1 h
        exact absurd e (getK_none_mem n _ hx p hp)
theorem and1 (a : Int) : bits .and .i64 a 1 = 0 ∨ bits .and .i64 a 1 = 1 := by
  have h : ∀ x : BitVec 64, (x &&& 1#64) = 0#64 ∨ (x &&& 1#64) = 1#64 := fun x => by
    have e : (x &&& 1#64).toNat = x.toNat % 2 := by rw [BitVec.toNat_and]; exact Nat.and_one_is_mod _
    rcases Nat.mod_two_eq_zero_or_one x.toNat with h | h
    · left; apply BitVec.eq_of_toNat_eq; rw [e, h]; rfl
    · right; apply BitVec.eq_of_toNat_eq; rw [e, h]; rfl
  show IntKind.i64.wrap ((BitVec.ofInt 64 a &&& BitVec.ofInt 64 1).toNat : Int) = 0 ∨ IntKind.i64.wrap ((BitVec.ofInt 64 a &&& BitVec.ofInt 64 1).toNat : Int) = 1
  rcases h (BitVec.ofInt 64 a) with h | h
  · left
    have : BitVec.ofInt 64 a &&& BitVec.ofInt 64 1 = 0#64 := h
    rw [this]; rfl
  · right
    have : BitVec.ofInt 64 a &&& BitVec.ofInt 64 1 = 1#64 := h
    rw [this]; rfl
end Go.Proofs.Ytmnaggdhkggjhaa.E
