import Derived.Test.YtmnaggdhkggjhaaM8
import Derived.Test.YtmnaggdhkggjhaaM6
import Derived.Test.YtmnaggdhkggjhaaS3
/- Two views joined as the reference joins them. -/
namespace Go.Proofs.Ytmnaggdhkggjhaa.E
open Go Go.RowKit
set_option linter.unusedSimpArgs false
set_option linter.unusedVariables false

theorem getK_insK {α : Type} (n : Int) (x : α) (l : List (Int × α)) (h : Rising l) (hne : ∀ p ∈ l, p.1 ≠ n) (j : Int) : getK j (insK n x l) = if j = n then some x else getK j l := by
  have hr := insK_rising n x l h hne
  by_cases hj : j = n
  · subst hj
    rw [if_pos rfl]
    exact getK_of_mem hr.nodup ((insK_perm j x l).mem_iff.2 (by simp))
  · rw [if_neg hj]
    have hp : getK j (insK n x l) = getK j ((n, x) :: l) := by
      refine getK_perm (insK_perm n x l) ?_ j
      rw [List.map_cons, List.nodup_cons]
      refine ⟨fun hm => ?_, h.nodup⟩
      obtain ⟨p, hp, e⟩ := List.mem_map.1 hm
      exact hne p hp e
    rw [hp, getK, if_neg hj]
theorem insK_mem {α : Type} {n : Int} {x : α} {l : List (Int × α)} {p : Int × α} (h : p ∈ insK n x l) : p = (n, x) ∨ p ∈ l := List.mem_cons.1 ((insK_perm n x l).mem_iff.1 h)
theorem cut_low (n : Int) (x : Rm) : ∀ (l : List (Int × Rm)) (fl : Int), Rising l → (∀ p ∈ l, fl < p.1) → (∀ p ∈ l, p.1 ≠ n) → fl < n → n ≤ (cutR fl l).1 → cutR fl (insK n x l) = cutR fl l
  | [], fl, _, _, _, h4, h5 => by simp only [cutR] at h5; omega
  | p :: r, fl, h1, h2, h3, h4, h5 => by
    obtain ⟨g1, g2⟩ := List.pairwise_cons.1 h1
    rw [cutR] at h5 ⊢
    split at h5
    · rename_i hbig
      rw [if_pos hbig]
      obtain ⟨a, u⟩ := p
      rw [insK]
      by_cases hlt : n < a
      · rw [if_pos hlt, cutR, if_pos (by simp at hbig ⊢; omega)]
        simp only
        rw [cutR, if_pos hbig]
      · rw [if_neg hlt, cutR, if_pos (by rw [List.length_cons, insK_len]; simp at hbig; omega)]
        have hna := h3 (a, u) (by simp)
        exact cut_low n x r a g2 (fun q hq => g1 q hq) (fun q hq => h3 q (by simp [hq])) (by simp only at hna; omega) h5
    · rename_i hbig
      simp only at h5
      omega
theorem cut_high (n : Int) (x : Rm) : ∀ (l : List (Int × Rm)) (fl : Int), Rising l → (∀ p ∈ l, fl < p.1) → (∀ p ∈ l, p.1 ≠ n) → (cutR fl l).1 < n → cutR fl (insK n x l) = putV (cutR fl l) n x
  | [], fl, _, _, _, h5 => rfl
  | p :: r, fl, h1, h2, h3, h5 => by
    obtain ⟨g1, g2⟩ := List.pairwise_cons.1 h1
    by_cases hbig : 4 < (p :: r).length
    · have e : cutR fl (p :: r) = cutR p.1 r := by rw [cutR, if_pos hbig]
      rw [e] at h5 ⊢
      have hfl := cutR_fl r p.1 g2 fun q hq => g1 q hq
      obtain ⟨a, u⟩ := p
      simp only at hfl h5
      rw [insK, if_neg (by omega), cutR, if_pos (by rw [List.length_cons, insK_len]; simp at hbig; omega)]
      exact cut_high n x r a g2 (fun q hq => g1 q hq) (fun q hq => h3 q (by simp [hq])) h5
    · rw [cutR_small fl (p :: r) (by omega)]
      unfold putV
      rw [cutV_R _ _ (by rw [insK_len]; simp only; omega)]
/-- The reference's steps. -/
def raiseV (v : VC) (n : Int) : VC := (max v.1 n, v.2.filter fun p => decide (max v.1 n < p.1))
def stepV (u : VC) (p : Int × Rm) : VC := if (lookV u p.1).1 = 7 then putV u p.1 p.2 else u
theorem raiseV_good {v : VC} (h : GoodV v) {n : Int} (hn : n ≤ 1099511627776) : GoodV (raiseV v n) :=
  ⟨h.rise.filter _, Nat.le_trans (List.length_filter_le _ _) h.len, fun p hp => of_decide_eq_true (List.mem_filter.1 hp).2, fun p hp => h.ok p (List.mem_filter.1 hp).1, fun p hp => h.key p (List.mem_filter.1 hp).1, by have := h.fl; simp only [raiseV]; omega⟩
theorem raiseV_zero {v : VC} (h : GoodV v) {n : Int} (hn : n ≤ v.1) : raiseV v n = v := by
  unfold raiseV
  rw [Int.max_eq_left hn, List.filter_eq_self.2 fun p hp => by simpa using h.above p hp]
theorem lookV7 {u : VC} {n : Int} (h : (lookV u n).1 = 7) : u.1 < n ∧ ∀ p ∈ u.2, p.1 ≠ n := by
  unfold lookV at h
  split at h
  · cases h
  · rename_i hle
    refine ⟨by omega, ?_⟩
    cases hx : getK n u.2 with
    | none => exact getK_none_mem _ _ hx
    | some m => rw [hx] at h; cases h
theorem stepV_good {u : VC} (h : GoodV u) {p : Int × Rm} (hk : 1 ≤ p.1 ∧ p.1 ≤ 1099511627776) (hx : ∀ y ∈ p.2.2, valOk y) : GoodV (stepV u p) := by
  unfold stepV
  split
  · rename_i h7
    obtain ⟨h1, h2⟩ := lookV7 h7
    exact putV_good h h1 hk h2 hx
  · exact h
theorem filter_get {α : Type} (fl : Int) (l : List (Int × α)) (j : Int) : getK j (l.filter fun p => decide (fl < p.1)) = if fl < j then getK j l else none := by
  by_cases h : fl < j
  · rw [if_pos h]
    exact getK_filter (q := fun x => decide (fl < x)) (by simpa using h) l
  · rw [if_neg h]
    refine getK_none_of j _ fun p hp e => ?_
    have := (List.mem_filter.1 hp).2
    simp only [decide_eq_true_eq] at this
    omega
theorem foldr_join {va : VC} (ha : GoodV va) (fl : Int) (hfl : va.1 ≤ fl) : ∀ (s : List (Int × Rm)), Rising s →
    s.foldr (fun p u => stepV u p) (fl, va.2.filter fun p => decide (fl < p.1)) = cutR fl (mergeR (va.2.filter fun p => decide (fl < p.1)) (s.filter fun p => decide (fl < p.1)))
  | [], _ => by
    have hA : Rising (va.2.filter fun p => decide (fl < p.1)) := ha.rise.filter _
    have e : mergeR (va.2.filter fun p => decide (fl < p.1)) (List.filter (fun p : Int × Rm => decide (fl < p.1)) []) = va.2.filter fun p => decide (fl < p.1) := by
      refine rising_ext _ _ (mergeR_rising hA List.Pairwise.nil) hA fun n => ?_
      rw [List.filter_nil, mergeR_get hA List.Pairwise.nil]
      simp [getK]
    rw [List.foldr_nil, e, cutR_small _ _ (Nat.le_trans (List.length_filter_le _ _) ha.len)]
  | p :: r, h => by
    obtain ⟨g1, g2⟩ := List.pairwise_cons.1 h
    rw [List.foldr_cons, foldr_join ha fl hfl r g2]
    have hA : Rising (va.2.filter fun p => decide (fl < p.1)) := ha.rise.filter _
    have hr : Rising (r.filter fun p => decide (fl < p.1)) := g2.filter _
    have hpr : Rising ((p :: r).filter fun p => decide (fl < p.1)) := h.filter _
    generalize hAe : (va.2.filter fun p => decide (fl < p.1)) = A at *
    have hM := mergeR_rising hA hr
    have hMp := mergeR_rising hA hpr
    have habA : ∀ q ∈ A, fl < q.1 := fun q hq => by rw [← hAe] at hq; simpa using (List.mem_filter.1 hq).2
    have habM : ∀ q ∈ mergeR A (r.filter fun p => decide (fl < p.1)), fl < q.1 := fun q hq => by
      rcases mergeR_mem hq with hq | hq
      · exact habA q hq
      · simpa using (List.mem_filter.1 hq).2
    have hgr : getK p.1 r = none := getK_none_of p.1 r fun q hq e => by have := g1 q hq; omega
    have same : (getK p.1 A).isSome = true ∨ p.1 ≤ fl → mergeR A ((p :: r).filter fun p => decide (fl < p.1)) = mergeR A (r.filter fun p => decide (fl < p.1)) := by
      intro hc
      refine rising_ext _ _ hMp hM fun j => ?_
      rw [mergeR_get hA hpr, mergeR_get hA hr, filter_get, filter_get]
      by_cases hj : j = p.1
      · subst hj
        rcases hc with hc | hc
        · obtain ⟨v, hv⟩ := Option.isSome_iff_exists.1 hc
          rw [hv]; rfl
        · rw [if_neg (by omega), if_neg (by omega)]
      · have : getK j (p :: r) = getK j r := by
          obtain ⟨a, u⟩ := p
          rw [getK, if_neg hj]
        rw [this]
    have ins : getK p.1 A = none → fl < p.1 → mergeR A ((p :: r).filter fun p => decide (fl < p.1)) = insK p.1 p.2 (mergeR A (r.filter fun p => decide (fl < p.1))) ∧ ∀ q ∈ mergeR A (r.filter fun p => decide (fl < p.1)), q.1 ≠ p.1 := by
      intro hn hlt
      have hgM : getK p.1 (mergeR A (r.filter fun p => decide (fl < p.1))) = none := by
        rw [mergeR_get hA hr, hn, filter_get, if_pos hlt, hgr]; rfl
      have hne := getK_none_mem _ _ hgM
      refine ⟨rising_ext _ _ hMp (insK_rising _ _ _ hM hne) fun j => ?_, hne⟩
      rw [getK_insK _ _ _ hM hne, mergeR_get hA hpr, mergeR_get hA hr, filter_get, filter_get]
      obtain ⟨a, u⟩ := p
      by_cases hj : j = a
      · subst hj
        rw [if_pos rfl]
        simp only at hn hlt
        rw [hn, if_pos hlt, getK, if_pos rfl]; rfl
      · rw [if_neg hj, getK, if_neg hj]
    unfold stepV
    by_cases h7 : (lookV (cutR fl (mergeR A (r.filter fun p => decide (fl < p.1)))) p.1).1 = 7
    · rw [if_pos h7]
      obtain ⟨h71, h72⟩ := lookV7 h7
      have hflc := cutR_fl _ _ hM habM
      have hnA : getK p.1 A = none := by
        cases hx : getK p.1 A with
        | none => rfl
        | some v =>
          have hmem : p.1 ∈ (mergeR A (r.filter fun p => decide (fl < p.1))).map (·.1) := by
            have : getK p.1 (mergeR A (r.filter fun p => decide (fl < p.1))) = some v := by rw [mergeR_get hA hr, hx]; rfl
            exact List.mem_map.2 ⟨(p.1, v), getK_mem _ _ _ this, rfl⟩
          rcases cutR_known _ _ _ hM habM hmem with h | h
          · omega
          · obtain ⟨q, hq, e⟩ := List.mem_map.1 h
            exact absurd e (h72 q hq)
      obtain ⟨e1, e2⟩ := ins hnA (by omega)
      rw [e1, cut_high p.1 p.2 _ fl hM habM e2 h71]
    · rw [if_neg h7]
      by_cases hle : p.1 ≤ fl
      · rw [same (.inr hle)]
      · cases hx : getK p.1 A with
        | some v => rw [same (.inl (by rw [hx]; rfl))]
        | none =>
          obtain ⟨e1, e2⟩ := ins hx (by omega)
          rw [e1, cut_low p.1 p.2 _ fl hM habM e2 (by omega)]
          -- it is not new: so it is too old
          apply Classical.byContradiction
          intro hgt
          apply h7
          unfold lookV
          rw [if_neg (by omega)]
          have : getK p.1 (cutR fl (mergeR A (r.filter fun p => decide (fl < p.1)))).2 = none := by
            refine getK_none_of _ _ fun q hq e => ?_
            have hsub : ∀ (l : List (Int × Rm)) (f : Int) (q : Int × Rm), q ∈ (cutR f l).2 → q ∈ l := by
              intro l
              induction l with
              | nil => intro f q h; simp [cutR] at h
              | cons y s ih =>
                intro f q h
                rw [cutR] at h
                split at h
                · exact List.mem_cons_of_mem _ (ih _ _ h)
                · exact h
            exact e2 q (hsub _ _ _ hq) e
          rw [this]
theorem ref_join {va vb : VC} (ha : GoodV va) (hb : GoodV vb) : vb.2.foldr (fun p u => stepV u p) (raiseV va vb.1) = joinV va vb := by
  have h := foldr_join ha (max va.1 vb.1) (by omega) vb.2 hb.rise
  unfold raiseV joinV
  rw [h]
  congr 1
  have hA : Rising (va.2.filter fun p => decide (max va.1 vb.1 < p.1)) := ha.rise.filter _
  have hB : Rising (vb.2.filter fun p => decide (max va.1 vb.1 < p.1)) := hb.rise.filter _
  refine rising_ext _ _ (mergeR_rising hA hB) ((mergeR_rising ha.rise hb.rise).filter _) fun j => ?_
  rw [mergeR_get hA hB, filter_get, filter_get, filter_get, mergeR_get ha.rise hb.rise]
  split <;> rfl
theorem joinV_zero {va : VC} (ha : GoodV va) : joinV va (0, []) = va := by
  rw [← ref_join ha goodV0]
  exact raiseV_zero ha ha.fl.1
end Go.Proofs.Ytmnaggdhkggjhaa.E
/- The reference's Copy; raise and put, told by views. -/
namespace Go.Proofs.Ytmnaggdhkggjhaa.E
open Go Go.RowKit
set_option linter.unusedSimpArgs false
set_option linter.unusedVariables false

theorem Refines.raise {L : List OneM} {F : List (Int × Int)} {V : Int → VC} (h : Refines L F V) (id n : Int) : Refines (raiseL L id (floorOf (raiseF F id n) id)) (raiseF F id n) (setV V id (raiseV (V id) n)) := by
  have hf := raiseF_floor h.rise id n
  have hm : floorOf (raiseF F id n) id = max (V id).1 n := by rw [hf id, if_pos rfl, h.fl]
  refine ⟨raiseL_sorted h.sorted _ _, raiseF_rising h.rise _ _, fun j => ?_, fun j => ?_⟩
  · rw [hf j]
    by_cases hj : j = id
    · subst hj; rw [if_pos rfl, setV_same, h.fl]; rfl
    · rw [if_neg hj, setV_other _ _ hj, h.fl]
  · rw [raiseL_of, hm]
    by_cases hj : j = id
    · subst hj; rw [if_pos rfl, setV_same, h.l]; rfl
    · rw [if_neg hj, setV_other _ _ hj, h.l]
theorem raiseL_len (L : List OneM) (id fl : Int) : (raiseL L id fl).length ≤ L.length := List.length_filter_le _ _
theorem refRaise_V {hu : Nat} {c : Nat → Nat} {w : World} {g : Nat} {V : Int → VC} {N : Nat} (id n : Int) (h : RefV hu c w g V N) (hn : n ≤ 1099511627776) (hN : N ≤ 60000) :
    CallP Try.prog 39 #[.pointer (some ⟨g, 0, none⟩), .int .i64 id, .int .i64 n] (fun r w' => ∃ c', (∀ k, k < w.heap.size → c' k = c k) ∧ RefV hu c' w' g (setV V id (raiseV (V id) n)) (N + 1) ∧ Turns (Dh hu c) w w') w := by
  obtain ⟨vL, vF, L, F, h1, h2, h3, h4⟩ := h.out
  have hhu := h1.hh
  refine (raise_spec id n h1 (by omega) (by omega)).mono ?_
  rintro _ w' ⟨vL', vF', hR, hT⟩
  refine ⟨col c w.heap.size hu, col_lt _ _ _, ⟨fun i => ?_, vL', vF', _, _, hR, h2.raise id n, ?_, ?_⟩, hT.mono fun k _ e => by rw [e, Dh, h1.hue]; omega⟩
  · unfold setV
    split
    · exact raiseV_good (h.good id) hn
    · exact h.good i
  · have := raiseL_len L id (floorOf (raiseF F id n) id); omega
  · have := raiseF_len F id n; omega
theorem refPut_V {hu : Nat} {c : Nat → Nat} {w : World} {g : Nat} {V : Int → VC} {N : Nat} (x : OneM) (h : RefV hu c w g V N) (hx : ElAt c w x) (hk : 1 ≤ x.no ∧ x.no ≤ 1099511627776) (hn : (V x.cl).1 < x.no) (hne : ∀ p ∈ (V x.cl).2, p.1 ≠ x.no) (hN : N ≤ 60000) :
    CallP Try.prog 34 #[.pointer (some ⟨g, 0, none⟩), .agg (oneF x).toArray] (fun r w' => ∃ c', (∀ k, k < w.heap.size → c' k = c k) ∧ RefV hu c' w' g (setV V x.cl (putV (V x.cl) x.no (x.R, x.vs))) (N + 1) ∧ Turns (Dh hu c) w w') w := by
  obtain ⟨vL, vF, L, F, h1, h2, h3, h4⟩ := h.out
  have hhu := h1.hh
  have hlen := putR_len L F x
  refine (put_spec x h1 hx (by omega) (by omega)).mono ?_
  rintro _ w' ⟨c', vL', vF', hc', hR, hT⟩
  refine ⟨c', hc', ⟨fun i => ?_, vL', vF', _, _, hR, h2.put x (h.good x.cl) hn hne, by omega, by omega⟩, hT.mono fun k _ e => by rw [e, Dh, h1.hue]; omega⟩
  unfold setV
  split
  · exact putV_good (h.good x.cl) hn hk hne hx.ok
  · exact h.good i
theorem refCopy_V {hu ho : Nat} {c : Nat → Nat} {w : World} {g : Nat} {V : Int → VC} {N : Nat} (h : RefV hu c w g V N) (hho : 0 < ho ∧ ho < 999) (hN : N ≤ 60000) :
    CallP Try.prog 38 #[.pointer (some ⟨g, 0, none⟩)] (fun r w' => ∃ go, r = .pointer (some ⟨go, 0, none⟩) ∧ RefV ho (col c w.heap.size ho) w' go V N ∧ w.heap.size ≤ go ∧ Below w.heap.size w w') w := by
  obtain ⟨vL, vF, L, F, h1, h2, h3, h4⟩ := h.out
  have hL0 := h1.rowL
  have hF0 := h1.rowF
  obtain ⟨A, cL, rfl, hcL, _⟩ := hL0.slice
  obtain ⟨A', cF, rfl, hcF, _⟩ := hF0.slice
  refine ⟨S38.calls _ _ _ ?_⟩
  unfold S38
  refine bd (cells := #[.slice none 0 0, .slice none 0 0]) (by kernel_rfl) ?_
  refine bx ?_
  have hb1 := (Below.refl w.heap.size w).alloc (Nat.le_refl _) (.cells (Value.agg #[.slice none 0 0, .slice none 0 0]).cells 45)
  have hB1 : Blk (w.alloc (.cells (Value.agg #[.slice none 0 0, .slice none 0 0]).cells 45)) w.heap.size 45 #[.slice none 0 0, .slice none 0 0] := Blk.new w 45 _
  generalize w.alloc (.cells (Value.agg #[.slice none 0 0, .slice none 0 0]).cells 45) = w1 at *
  generalize hgo : w.heap.size = go at *
  have h1a := h1.below (hgo.symm ▸ hb1)
  have hdr : Below w1.heap.size w1 w1.drew := (Below.refl _ _).drew
  have s0 : ∀ w', Below w1.heap.size w1 w' → w'.cell? ⟨go, 0, none⟩ = some (.slice none 0 0) := fun w' h => (hB1.below' h).cell 0
  have t0 : ∀ w', Below w1.heap.size w1 w' → w'.cell? ⟨g, 0, none⟩ = some (.slice A L.length cL) := fun w' h => (h1a.blk.below' h).cell 0
  refine draw (Below w1.heap.size w1) hdr ?_
  (repeat with_reducible first | refine yfd m0 (by decide) ?_ | refine yl1 one42 s0 ?_ | refine yl1 one42 t0 ?_ | refine ynck ?_ | refine nck ?_ | refine cdT ?_ | refine cdF ?_ | refine gdY ?_ | refine gdFT ?_ | refine gdTF ?_ | refine gdU ?_ | refine gaY ?_ | refine gaFT ?_ | refine gaTF ?_ | refine pickT ?_ | refine pickF ?_ | refine yi_lss_t (by omega) ?_ | refine yi_lss_f (by omega) ?_ | refine yi_add64 (by omega) ?_ | refine yi_sub64 (by omega) ?_ | refine yi_eql_t (by omega) ?_ | refine yi_eql_f (by omega) ?_ | refine yi_neq_t (by omega) ?_ | refine yi_neq_f (by omega) ?_ | refine yi_gtr_t (by omega) ?_ | refine yi_gtr_f (by omega) ?_ | refine yi_leq_t (by omega) ?_ | refine yi_leq_f (by omega) ?_ | refine yi_geq_t (by omega) ?_ | refine yi_geq_f (by omega) ?_ | refine yi_xt0 ?_ | refine yi_xt1 ?_ | refine yi_xt2 ?_ | refine yi_xt3 ?_ | refine yi_T ?_ | refine yi_F ?_ | refine yi_not ?_ | refine yi_and ?_ | refine yi_or ?_ | refine yi_xor ?_ | refine yi_shr (by omega) (by decide) ?_ | refine yi_shl (by omega) (by decide) ?_ | refine yi_quo64 (by omega) ?_ | refine yi_rem64 (by omega) ?_ | refine yi_mul64 (by omega) ?_ | refine yi_neg ?_ | refine yi_un_xor32 ?_ | refine yi_add ?_ | refine yi_sub ?_ | refine yi_mul ?_ | refine yi_quo (by decide) ?_ | refine yi_rem (by decide) ?_)
  refine act ?_
  have h1d := h1a.below hdr
  have hcut : rRow 7 (fun _ us x => us = oneF x) w1.drew [.slice A L.length cL] L := h1d.rowL.rd oneF_len fun x _ => rfl
  have hnil : w1.drew.ownsRow 0 73 7 (.slice none 0 0) 0 [] := ⟨by simp, .inl ⟨rfl, rfl⟩⟩
  refine apRm w1.drew.heap.size und42 inf73 (by rfl) (by decide) hnil (Fresh.nil _) (Nat.le_refl _) oneF_len (fun x hx => oneF_one (h1d.el x hx)) hcut (by omega) (by omega) ?_
  intro v2 w2 ho2 hf2 hb2
  rw [Nat.zero_add, List.nil_append] at ho2
  have hb12 := below_then hdr hb2
  refine ⟨_, hb12, fun _ h => h, ?_⟩
  (repeat with_reducible first | refine yfd m0 (by decide) ?_ | refine ynck ?_ | refine nck ?_ | refine cdT ?_ | refine cdF ?_ | refine gdY ?_ | refine gdFT ?_ | refine gdTF ?_ | refine gdU ?_ | refine gaY ?_ | refine gaFT ?_ | refine gaTF ?_ | refine pickT ?_ | refine pickF ?_ | refine yi_lss_t (by omega) ?_ | refine yi_lss_f (by omega) ?_ | refine yi_add64 (by omega) ?_ | refine yi_sub64 (by omega) ?_ | refine yi_eql_t (by omega) ?_ | refine yi_eql_f (by omega) ?_ | refine yi_neq_t (by omega) ?_ | refine yi_neq_f (by omega) ?_ | refine yi_gtr_t (by omega) ?_ | refine yi_gtr_f (by omega) ?_ | refine yi_leq_t (by omega) ?_ | refine yi_leq_f (by omega) ?_ | refine yi_geq_t (by omega) ?_ | refine yi_geq_f (by omega) ?_ | refine yi_xt0 ?_ | refine yi_xt1 ?_ | refine yi_xt2 ?_ | refine yi_xt3 ?_ | refine yi_T ?_ | refine yi_F ?_ | refine yi_not ?_ | refine yi_and ?_ | refine yi_or ?_ | refine yi_xor ?_ | refine yi_shr (by omega) (by decide) ?_ | refine yi_shl (by omega) (by decide) ?_ | refine yi_quo64 (by omega) ?_ | refine yi_rem64 (by omega) ?_ | refine yi_mul64 (by omega) ?_ | refine yi_neg ?_ | refine yi_un_xor32 ?_ | refine yi_add ?_ | refine yi_sub ?_ | refine yi_mul ?_ | refine yi_quo (by decide) ?_ | refine yi_rem (by decide) ?_)
  have hB2 := hB1.below' hb12
  refine st sz42 (own1 ho2) (by rw [hB2.cell 0]; rfl) (hB2.frozen 0) ?_
  have hT3 := Turns.setCell (F := fun k => k = go) (p := ⟨go, 0, none⟩) (Turns.refl _ w2) (.inl rfl) v2
  have hB3 := hB2.set_ 0 v2
  rw [set45a] at hB3
  have hgl1 := hB1.lt
  have hs1 := hb1.size
  have hd1 : w1.drew.heap.size = w1.heap.size := rfl
  have ho3 := ownsRow_turns ho2 hT3 (fun k hk e => by have := hf2 k hk; omega)
  have hbw2 : Below go w w2 := hb1.trans (hb12.mono (by omega))
  have hbw3 : Below go w (w2.setCell ⟨go, 0, none⟩ v2) := hbw2.trans (hT3.below (by have := hbw2.size; omega) fun k hk e => by omega)
  generalize w2.setCell ⟨go, 0, none⟩ v2 = w3 at *
  have h1c := h1.below (hgo.symm ▸ hbw3)
  have hdr3 : Below w3.heap.size w3 w3.drew := (Below.refl _ _).drew
  have s1 : ∀ w', Below w3.heap.size w3 w' → w'.cell? ⟨go, 1, none⟩ = some (.slice none 0 0) := fun w' h => (hB3.below' h).cell 1
  have t1 : ∀ w', Below w3.heap.size w3 w' → w'.cell? ⟨g, 1, none⟩ = some (.slice A' F.length cF) := fun w' h => (h1c.blk.below' h).cell 1
  refine draw (Below w3.heap.size w3) hdr3 ?_
  (repeat with_reducible first | refine yfd m1 (by decide) ?_ | refine yl1 one43 s1 ?_ | refine yl1 one43 t1 ?_ | refine ynck ?_ | refine nck ?_ | refine cdT ?_ | refine cdF ?_ | refine gdY ?_ | refine gdFT ?_ | refine gdTF ?_ | refine gdU ?_ | refine gaY ?_ | refine gaFT ?_ | refine gaTF ?_ | refine pickT ?_ | refine pickF ?_ | refine yi_lss_t (by omega) ?_ | refine yi_lss_f (by omega) ?_ | refine yi_add64 (by omega) ?_ | refine yi_sub64 (by omega) ?_ | refine yi_eql_t (by omega) ?_ | refine yi_eql_f (by omega) ?_ | refine yi_neq_t (by omega) ?_ | refine yi_neq_f (by omega) ?_ | refine yi_gtr_t (by omega) ?_ | refine yi_gtr_f (by omega) ?_ | refine yi_leq_t (by omega) ?_ | refine yi_leq_f (by omega) ?_ | refine yi_geq_t (by omega) ?_ | refine yi_geq_f (by omega) ?_ | refine yi_xt0 ?_ | refine yi_xt1 ?_ | refine yi_xt2 ?_ | refine yi_xt3 ?_ | refine yi_T ?_ | refine yi_F ?_ | refine yi_not ?_ | refine yi_and ?_ | refine yi_or ?_ | refine yi_xor ?_ | refine yi_shr (by omega) (by decide) ?_ | refine yi_shl (by omega) (by decide) ?_ | refine yi_quo64 (by omega) ?_ | refine yi_rem64 (by omega) ?_ | refine yi_mul64 (by omega) ?_ | refine yi_neg ?_ | refine yi_un_xor32 ?_ | refine yi_add ?_ | refine yi_sub ?_ | refine yi_mul ?_ | refine yi_quo (by decide) ?_ | refine yi_rem (by decide) ?_)
  refine act ?_
  have h1e := h1c.below hdr3
  have hcutF : rRow 2 (fun _ us x => us = flF x) w3.drew [.slice A' F.length cF] F := h1e.rowF.rd flF_len fun x _ => rfl
  have hnilF : w3.drew.ownsRow 0 84 2 (.slice none 0 0) 0 [] := ⟨by simp, .inl ⟨rfl, rfl⟩⟩
  refine apRm w3.drew.heap.size und43 inf84 (by rfl) (by decide) hnilF (Fresh.nil _) (Nat.le_refl _) flF_len (fun x hx => flF_one x) hcutF (by omega) (by omega) ?_
  intro v4 w4 ho4 hf4 hb4
  rw [Nat.zero_add, List.nil_append] at ho4
  have hb34 := below_then hdr3 hb4
  refine ⟨_, hb34, fun _ h => h, ?_⟩
  (repeat with_reducible first | refine yfd m1 (by decide) ?_ | refine ynck ?_ | refine nck ?_ | refine cdT ?_ | refine cdF ?_ | refine gdY ?_ | refine gdFT ?_ | refine gdTF ?_ | refine gdU ?_ | refine gaY ?_ | refine gaFT ?_ | refine gaTF ?_ | refine pickT ?_ | refine pickF ?_ | refine yi_lss_t (by omega) ?_ | refine yi_lss_f (by omega) ?_ | refine yi_add64 (by omega) ?_ | refine yi_sub64 (by omega) ?_ | refine yi_eql_t (by omega) ?_ | refine yi_eql_f (by omega) ?_ | refine yi_neq_t (by omega) ?_ | refine yi_neq_f (by omega) ?_ | refine yi_gtr_t (by omega) ?_ | refine yi_gtr_f (by omega) ?_ | refine yi_leq_t (by omega) ?_ | refine yi_leq_f (by omega) ?_ | refine yi_geq_t (by omega) ?_ | refine yi_geq_f (by omega) ?_ | refine yi_xt0 ?_ | refine yi_xt1 ?_ | refine yi_xt2 ?_ | refine yi_xt3 ?_ | refine yi_T ?_ | refine yi_F ?_ | refine yi_not ?_ | refine yi_and ?_ | refine yi_or ?_ | refine yi_xor ?_ | refine yi_shr (by omega) (by decide) ?_ | refine yi_shl (by omega) (by decide) ?_ | refine yi_quo64 (by omega) ?_ | refine yi_rem64 (by omega) ?_ | refine yi_mul64 (by omega) ?_ | refine yi_neg ?_ | refine yi_un_xor32 ?_ | refine yi_add ?_ | refine yi_sub ?_ | refine yi_mul ?_ | refine yi_quo (by decide) ?_ | refine yi_rem (by decide) ?_)
  have hB4 := hB3.below' hb34
  have hs3 := hbw3.size
  have hgl3 := hB3.lt
  have hd3 : w3.drew.heap.size = w3.heap.size := rfl
  refine st sz43 (own1 ho4) (by rw [hB4.cell 1]; rfl) (hB4.frozen 1) ?_
  have hT5 := Turns.setCell (F := fun k => k = go) (p := ⟨go, 1, none⟩) (Turns.refl _ w4) (.inl rfl) v4
  have hB5 := hB4.set_ 1 v4
  rw [set45b] at hB5
  have ho4' := ownsRow_turns (ownsRow_turns ho3 (Turns.of_below (F := fun _ => False) hb34) (fun _ _ h => h)) hT5 (fun k hk e => by have := hf2 k hk; omega)
  have ho5 := ownsRow_turns ho4 hT5 (fun k hk e => by have := hf4 k hk; omega)
  have hbw5 : Below go w (w4.setCell ⟨go, 1, none⟩ v4) := (hbw3.trans (hb34.mono (by omega))).trans (hT5.below (by have := hb34.size; omega) fun k hk e => by omega)
  generalize w4.setCell ⟨go, 1, none⟩ v4 = w5 at *
  have h1f := h1.below (hgo.symm ▸ hbw5)
  refine ⟨go, rfl, ⟨h.good, v2, v4, L, F, ⟨hho, col_ge _ _ _ (Nat.le_refl _), hB5, OwnR.of_own ho4', OwnR.of_own ho5, fun k hk => col_ge _ _ _ (by have := hf2 k hk; omega), fun k hk => col_ge _ _ _ (by have := hf4 k hk; omega), fun x hx => (h1f.el x hx).re' fun k hk => col_lt _ _ _ k ?_⟩, h2, h3, h4⟩, Nat.le_refl _, hbw5⟩
  have := (h1.el x hx).own.lt hk
  omega
end Go.Proofs.Ytmnaggdhkggjhaa.E
/- The reference's Join. -/
namespace Go.Proofs.Ytmnaggdhkggjhaa.E
open Go Go.RowKit
set_option linter.unusedSimpArgs false
set_option linter.unusedVariables false

theorem setV_eq {V U : Int → VC} {id : Int} {v : VC} (h1 : U id = v) (h2 : ∀ i, i ≠ id → U i = V i) : setV V id v = U := by
  funext i
  unfold setV
  split
  · rename_i e; rw [e, h1]
  · rename_i e; rw [h2 i e]
theorem refJoin_V {ha hb ho : Nat} {c : Nat → Nat} {w : World} {ga gb : Nat} {Va Vb : Int → VC} {N : Nat} (hA : RefV ha c w ga Va N) (hB : RefV hb c w gb Vb N) (hin : InP Vb) (hho : 0 < ho ∧ ho < 999) (hob : ho ≠ hb) (hN : N ≤ 10000) (hfree : ∀ k, k < w.heap.size → c k % 1000 ≠ ho) :
    CallP Try.prog 22 #[.pointer (some ⟨ga, 0, none⟩), .pointer (some ⟨gb, 0, none⟩)] (fun r w' => ∃ go c', r = .pointer (some ⟨go, 0, none⟩) ∧ (∀ k, k < w.heap.size → c' k = c k) ∧ RefV ho c' w' go (fun id => joinV (Va id) (Vb id)) (3 * N) ∧ Below w.heap.size w w') w := by
  obtain ⟨vL, vF, L, F, h1, h2, h3, h4⟩ := hB.out
  have gA := hA.good
  have gB := hB.good
  have hL0 := h1.rowL
  have hF0 := h1.rowF
  obtain ⟨A, cL, rfl, hcL, _⟩ := hL0.slice
  obtain ⟨A', cF, rfl, hcF, _⟩ := hF0.slice
  refine ⟨S22.calls _ _ _ _ ?_⟩
  unfold S22
  refine (refCopy_V hA hho (by omega)).mono ?_
  rintro _ w1 ⟨go, rfl, hO1, hgo, hb1⟩
  have hs1 := hb1.size
  -- the floors
  refine LoopP.inv1 (fun iv w' => ∃ (i : Nat) (c' : Nat → Nat) (U : Int → VC), i ≤ F.length ∧ iv = .int .i64 i ∧ (∀ k, k < w.heap.size → c' k = c k) ∧ RefV ho c' w' go U (N + i) ∧ (∀ id, U id = if id ∈ (F.take i).map (·.1) then raiseV (Va id) (Vb id).1 else Va id) ∧ Below w.heap.size w w') (fun iv _ => F.length - (intOf iv).toNat)
    ⟨0, _, Va, by omega, rfl, col_lt _ _ _, hO1, fun id => by simp, hb1⟩ ?_
  rintro _ w2 ⟨i, c2, U, hi, rfl, hc2, hO2, hU, hb2⟩ J hJ
  dsimp only [List.headD_cons, List.tail_cons]
  have hs2 := hb2.size
  have h12 : RefAt hb c2 w2 gb _ _ L F := (h1.re hc2).below hb2
  have c1 : w2.cell? ⟨gb, 1, none⟩ = some (.slice A' F.length cF) := h12.blk.cell 1
  (repeat with_reducible first | refine fd m1 (by decide) ?_ | refine ld one43 c1 ?_ | refine nck ?_ | refine cdT ?_ | refine cdF ?_ | refine gdY ?_ | refine gdFT ?_ | refine gdTF ?_ | refine gdU ?_ | refine gaY ?_ | refine gaFT ?_ | refine gaTF ?_ | refine pickT ?_ | refine pickF ?_ | refine bi_lss_t (by omega) ?_ | refine bi_lss_f (by omega) ?_ | refine bi_add64 (by omega) ?_ | refine bi_sub64 (by omega) ?_ | refine bi_eql_t (by omega) ?_ | refine bi_eql_f (by omega) ?_ | refine bi_neq_t (by omega) ?_ | refine bi_neq_f (by omega) ?_ | refine bi_gtr_t (by omega) ?_ | refine bi_gtr_f (by omega) ?_ | refine bi_leq_t (by omega) ?_ | refine bi_leq_f (by omega) ?_ | refine bi_geq_t (by omega) ?_ | refine bi_geq_f (by omega) ?_ | refine bi_xt0 ?_ | refine bi_xt1 ?_ | refine bi_xt2 ?_ | refine bi_xt3 ?_ | refine bi_T ?_ | refine bi_F ?_ | refine bi_not ?_ | refine bi_and ?_ | refine bi_or ?_ | refine bi_xor ?_ | refine bi_shr (by omega) (by decide) ?_ | refine bi_shl (by omega) (by decide) ?_ | refine bi_quo64 (by omega) ?_ | refine bi_rem64 (by omega) ?_ | refine bi_mul64 (by omega) ?_ | refine bi_neg ?_ | refine bi_un_xor32 ?_ | refine bi_add ?_ | refine bi_sub ?_ | refine bi_mul ?_ | refine bi_quo (by decide) ?_ | refine bi_rem (by decide) ?_)
  refine ln und43 ?_
  refine bi_lss_c (fun hlt => ?_) (fun hlt => ?_)
  · have hi' : i < F.length := by omega
    have hF2 := h12.rowF
    obtain ⟨gF, cF', he, hcell⟩ := rowAt flF_len hF2 i hi' (by decide)
    cases he
    have d0 : w2.cell? ⟨gF, i * 2 + 0, none⟩ = some (.int .i64 F[i].1) := hcell 0 _ rfl
    have d1 : w2.cell? ⟨gF, i * 2 + 1, none⟩ = some (.int .i64 F[i].2) := hcell 1 _ rfl
    have hdr : Below w2.heap.size w2 w2.drew := (Below.refl _ _).drew
    have s0 : ∀ w', Below w2.heap.size w2 w' → w'.cell? ⟨gb, 1, none⟩ = some (.slice (some ⟨gF, 0, none⟩) F.length cF) := fun w' h => (h12.blk.below' h).cell 1
    have s1 : ∀ w', Below w2.heap.size w2 w' → w'.cell? ⟨gF, i * 2 + 0, none⟩ = some (.int .i64 F[i].1) := fun w' h => by rw [h.cell (World.block_lt_of_cell? _ _ d0), d0]
    have s2 : ∀ w', Below w2.heap.size w2 w' → w'.cell? ⟨gF, i * 2 + 1, none⟩ = some (.int .i64 F[i].2) := fun w' h => by rw [h.cell (World.block_lt_of_cell? _ _ d1), d1]
    (repeat with_reducible first | refine nck ?_ | refine cdT ?_ | refine cdF ?_ | refine gdY ?_ | refine gdFT ?_ | refine gdTF ?_ | refine gdU ?_ | refine gaY ?_ | refine gaFT ?_ | refine gaTF ?_ | refine pickT ?_ | refine pickF ?_ | refine bi_lss_t (by omega) ?_ | refine bi_lss_f (by omega) ?_ | refine bi_add64 (by omega) ?_ | refine bi_sub64 (by omega) ?_ | refine bi_eql_t (by omega) ?_ | refine bi_eql_f (by omega) ?_ | refine bi_neq_t (by omega) ?_ | refine bi_neq_f (by omega) ?_ | refine bi_gtr_t (by omega) ?_ | refine bi_gtr_f (by omega) ?_ | refine bi_leq_t (by omega) ?_ | refine bi_leq_f (by omega) ?_ | refine bi_geq_t (by omega) ?_ | refine bi_geq_f (by omega) ?_ | refine bi_xt0 ?_ | refine bi_xt1 ?_ | refine bi_xt2 ?_ | refine bi_xt3 ?_ | refine bi_T ?_ | refine bi_F ?_ | refine bi_not ?_ | refine bi_and ?_ | refine bi_or ?_ | refine bi_xor ?_ | refine bi_shr (by omega) (by decide) ?_ | refine bi_shl (by omega) (by decide) ?_ | refine bi_quo64 (by omega) ?_ | refine bi_rem64 (by omega) ?_ | refine bi_mul64 (by omega) ?_ | refine bi_neg ?_ | refine bi_un_xor32 ?_ | refine bi_add ?_ | refine bi_sub ?_ | refine bi_mul ?_ | refine bi_quo (by decide) ?_ | refine bi_rem (by decide) ?_)
    refine draw (Below w2.heap.size w2) hdr ?_
    (repeat with_reducible first | refine yfd m1 (by decide) ?_ | refine yl1 one43 s0 ?_ | refine yixG und43 sz84 i hi' ?_ | refine yfdG f0 (by decide) ?_ | refine yl1 one3 s1 ?_ | refine yfdG f1 (by decide) ?_ | refine yl1 one3 s2 ?_ | refine ynck ?_ | refine nck ?_ | refine cdT ?_ | refine cdF ?_ | refine gdY ?_ | refine gdFT ?_ | refine gdTF ?_ | refine gdU ?_ | refine gaY ?_ | refine gaFT ?_ | refine gaTF ?_ | refine pickT ?_ | refine pickF ?_ | refine yi_lss_t (by omega) ?_ | refine yi_lss_f (by omega) ?_ | refine yi_add64 (by omega) ?_ | refine yi_sub64 (by omega) ?_ | refine yi_eql_t (by omega) ?_ | refine yi_eql_f (by omega) ?_ | refine yi_neq_t (by omega) ?_ | refine yi_neq_f (by omega) ?_ | refine yi_gtr_t (by omega) ?_ | refine yi_gtr_f (by omega) ?_ | refine yi_leq_t (by omega) ?_ | refine yi_leq_f (by omega) ?_ | refine yi_geq_t (by omega) ?_ | refine yi_geq_f (by omega) ?_ | refine yi_xt0 ?_ | refine yi_xt1 ?_ | refine yi_xt2 ?_ | refine yi_xt3 ?_ | refine yi_T ?_ | refine yi_F ?_ | refine yi_not ?_ | refine yi_and ?_ | refine yi_or ?_ | refine yi_xor ?_ | refine yi_shr (by omega) (by decide) ?_ | refine yi_shl (by omega) (by decide) ?_ | refine yi_quo64 (by omega) ?_ | refine yi_rem64 (by omega) ?_ | refine yi_mul64 (by omega) ?_ | refine yi_neg ?_ | refine yi_un_xor32 ?_ | refine yi_add ?_ | refine yi_sub ?_ | refine yi_mul ?_ | refine yi_quo (by decide) ?_ | refine yi_rem (by decide) ?_)
    have hno : F[i].2 = (Vb F[i].1).1 := by
      rw [← h2.fl F[i].1, floorOf, getK_of_mem h2.rise.nodup (show (F[i].1, F[i].2) ∈ F from List.getElem_mem hi')]; rfl
    have hle := (gB F[i].1).fl
    refine (refRaise_V F[i].1 F[i].2 (hO2.below hdr) (by rw [hno]; exact hle.2) (by omega)).mono ?_
    rintro _ w3 ⟨c3, hc3, hO3, hT3⟩
    have hb23 : Below w.heap.size w2.drew w3 := hT3.below hs2 fun k hk e => hfree k hk (by rw [← hc2 k hk]; exact e)
    (repeat with_reducible first | refine nck ?_ | refine cdT ?_ | refine cdF ?_ | refine gdY ?_ | refine gdFT ?_ | refine gdTF ?_ | refine gdU ?_ | refine gaY ?_ | refine gaFT ?_ | refine gaTF ?_ | refine pickT ?_ | refine pickF ?_ | refine bi_lss_t (by omega) ?_ | refine bi_lss_f (by omega) ?_ | refine bi_add64 (by omega) ?_ | refine bi_sub64 (by omega) ?_ | refine bi_eql_t (by omega) ?_ | refine bi_eql_f (by omega) ?_ | refine bi_neq_t (by omega) ?_ | refine bi_neq_f (by omega) ?_ | refine bi_gtr_t (by omega) ?_ | refine bi_gtr_f (by omega) ?_ | refine bi_leq_t (by omega) ?_ | refine bi_leq_f (by omega) ?_ | refine bi_geq_t (by omega) ?_ | refine bi_geq_f (by omega) ?_ | refine bi_xt0 ?_ | refine bi_xt1 ?_ | refine bi_xt2 ?_ | refine bi_xt3 ?_ | refine bi_T ?_ | refine bi_F ?_ | refine bi_not ?_ | refine bi_and ?_ | refine bi_or ?_ | refine bi_xor ?_ | refine bi_shr (by omega) (by decide) ?_ | refine bi_shl (by omega) (by decide) ?_ | refine bi_quo64 (by omega) ?_ | refine bi_rem64 (by omega) ?_ | refine bi_mul64 (by omega) ?_ | refine bi_neg ?_ | refine bi_un_xor32 ?_ | refine bi_add ?_ | refine bi_sub ?_ | refine bi_mul ?_ | refine bi_quo (by decide) ?_ | refine bi_rem (by decide) ?_)
    refine hJ _ _ ⟨i + 1, c3, _, by omega, by simp, fun k hk => by rw [hc3 k (show k < w2.drew.heap.size from by show k < w2.heap.size; omega), hc2 k hk], hO3, fun id => ?_, (below_then hb2 hdr).trans hb23⟩ (by simp [intOf]; omega)
    have hnot : F[i].1 ∉ (F.take i).map (·.1) := fun hm => by
      obtain ⟨p, hp, e⟩ := List.mem_map.1 hm
      obtain ⟨j, hj, rfl⟩ := List.getElem_of_mem hp
      have hjl : j < i := by rw [List.length_take] at hj; omega
      have hlt := List.pairwise_iff_getElem.1 h2.rise j i (by omega) hi' hjl
      rw [List.getElem_take] at e
      omega
    rw [List.take_succ_eq_append_getElem hi', List.map_append]
    unfold setV
    split
    · rename_i e
      subst e
      rw [if_pos (by simp), hU, if_neg hnot, hno]
    · rename_i e
      rw [hU]
      simp only [List.map_cons, List.map_nil, List.mem_append, List.mem_cons, List.not_mem_nil, or_false, e]
  · have : i = F.length := by omega
    subst this
    have hU' : ∀ id, U id = raiseV (Va id) (Vb id).1 := fun id => by
      rw [hU, List.take_length]
      split
      · rfl
      · rename_i hn
        have : (Vb id).1 = 0 := by
          rw [← h2.fl id, floorOf, getK_none_of id F fun p hp e => hn (List.mem_map.2 ⟨p, hp, e⟩)]; rfl
        rw [this, raiseV_zero (gA id) (gA id).fl.1]
    have c0 : w2.cell? ⟨gb, 0, none⟩ = some (.slice A L.length cL) := h12.blk.cell 0
    (repeat with_reducible first | refine fd m0 (by decide) ?_ | refine ld one42 c0 ?_ | refine nck ?_ | refine cdT ?_ | refine cdF ?_ | refine gdY ?_ | refine gdFT ?_ | refine gdTF ?_ | refine gdU ?_ | refine gaY ?_ | refine gaFT ?_ | refine gaTF ?_ | refine pickT ?_ | refine pickF ?_ | refine bi_lss_t (by omega) ?_ | refine bi_lss_f (by omega) ?_ | refine bi_add64 (by omega) ?_ | refine bi_sub64 (by omega) ?_ | refine bi_eql_t (by omega) ?_ | refine bi_eql_f (by omega) ?_ | refine bi_neq_t (by omega) ?_ | refine bi_neq_f (by omega) ?_ | refine bi_gtr_t (by omega) ?_ | refine bi_gtr_f (by omega) ?_ | refine bi_leq_t (by omega) ?_ | refine bi_leq_f (by omega) ?_ | refine bi_geq_t (by omega) ?_ | refine bi_geq_f (by omega) ?_ | refine bi_xt0 ?_ | refine bi_xt1 ?_ | refine bi_xt2 ?_ | refine bi_xt3 ?_ | refine bi_T ?_ | refine bi_F ?_ | refine bi_not ?_ | refine bi_and ?_ | refine bi_or ?_ | refine bi_xor ?_ | refine bi_shr (by omega) (by decide) ?_ | refine bi_shl (by omega) (by decide) ?_ | refine bi_quo64 (by omega) ?_ | refine bi_rem64 (by omega) ?_ | refine bi_mul64 (by omega) ?_ | refine bi_neg ?_ | refine bi_un_xor32 ?_ | refine bi_add ?_ | refine bi_sub ?_ | refine bi_mul ?_ | refine bi_quo (by decide) ?_ | refine bi_rem (by decide) ?_)
    refine ln und42 ?_
    refine bi_sub64 (by omega) ?_
    refine LoopP.inv1 (fun iv w' => ∃ (j : Nat) (c' : Nat → Nat) (U : Int → VC), j ≤ L.length ∧ iv = .int .i64 ((j : Int) - 1) ∧ (∀ k, k < w.heap.size → c' k = c k) ∧ RefV ho c' w' go U (N + F.length + (L.length - j)) ∧ (∀ id, U id = (ofCl (L.drop j) id).foldr (fun p u => stepV u p) (raiseV (Va id) (Vb id).1)) ∧ Below w.heap.size w w') (fun iv _ => (intOf iv + 1).toNat)
      ⟨L.length, c2, U, Nat.le_refl _, rfl, hc2, by simpa using hO2, fun id => by rw [hU' id, List.drop_length]; rfl, hb2⟩ ?_
    rintro _ w3 ⟨j, c3, U3, hj, rfl, hc3, hO3, hU3, hb3⟩ J1 hJ1
    dsimp only [List.headD_cons, List.tail_cons]
    have hs3 := hb3.size
    refine bi_geq_c (fun hge => ?_) (fun hge => ?_)
    · obtain ⟨i, rfl⟩ : ∃ i, j = i + 1 := ⟨j - 1, by omega⟩
      have hi' : i < L.length := by omega
      have e1 : (((i + 1 : Nat) : Int) - 1) = (i : Int) := by omega
      rw [e1]
      have h13 : RefAt hb c3 w3 gb _ _ L F := (h1.re hc3).below hb3
      obtain ⟨gL, cL', he, hcell⟩ := rowAt oneF_len h13.rowL i hi' (by decide)
      cases he
      have d0 : w3.cell? ⟨gL, i * 7 + 0, none⟩ = some (.int .i64 L[i].cl) := hcell 0 _ rfl
      have d1 : w3.cell? ⟨gL, i * 7 + 1, none⟩ = some (.int .i64 L[i].no) := hcell 1 _ rfl
      have hdr : Below w3.heap.size w3 w3.drew := (Below.refl _ _).drew
      have s0 : ∀ w', Below w3.heap.size w3 w' → w'.cell? ⟨gb, 0, none⟩ = some (.slice (some ⟨gL, 0, none⟩) L.length cL) := fun w' h => (h13.blk.below' h).cell 0
      have s1 : ∀ w', Below w3.heap.size w3 w' → w'.cell? ⟨gL, i * 7 + 0, none⟩ = some (.int .i64 L[i].cl) := fun w' h => by rw [h.cell (World.block_lt_of_cell? _ _ d0), d0]
      have s2 : ∀ w', Below w3.heap.size w3 w' → w'.cell? ⟨gL, i * 7 + 1, none⟩ = some (.int .i64 L[i].no) := fun w' h => by rw [h.cell (World.block_lt_of_cell? _ _ d1), d1]
      have hmV : pairOf L[i] ∈ (Vb L[i].cl).2 := by
        rw [← h2.l]
        exact List.mem_map.2 ⟨L[i], List.mem_filter.2 ⟨List.getElem_mem hi', by simp⟩, rfl⟩
      have hkey := (gB L[i].cl).key _ hmV
      have hcl := hin L[i].cl (fun e => by rw [e] at hmV; simp at hmV)
      have hbad : badP L[i].cl L[i].no = false := by
        have : (pairOf L[i]).1 = L[i].no := rfl
        simp [badP, hcl]; omega
      have hlk : lookQ U3 L[i].cl L[i].no = lookV (U3 L[i].cl) L[i].no := by rw [lookQ, if_neg (by rw [hbad]; exact Bool.false_ne_true)]
      have hdrop : L.drop i = L[i] :: L.drop (i + 1) := List.drop_eq_getElem_cons hi'
      (repeat with_reducible first | refine nck ?_ | refine cdT ?_ | refine cdF ?_ | refine gdY ?_ | refine gdFT ?_ | refine gdTF ?_ | refine gdU ?_ | refine gaY ?_ | refine gaFT ?_ | refine gaTF ?_ | refine pickT ?_ | refine pickF ?_ | refine bi_lss_t (by omega) ?_ | refine bi_lss_f (by omega) ?_ | refine bi_add64 (by omega) ?_ | refine bi_sub64 (by omega) ?_ | refine bi_eql_t (by omega) ?_ | refine bi_eql_f (by omega) ?_ | refine bi_neq_t (by omega) ?_ | refine bi_neq_f (by omega) ?_ | refine bi_gtr_t (by omega) ?_ | refine bi_gtr_f (by omega) ?_ | refine bi_leq_t (by omega) ?_ | refine bi_leq_f (by omega) ?_ | refine bi_geq_t (by omega) ?_ | refine bi_geq_f (by omega) ?_ | refine bi_xt0 ?_ | refine bi_xt1 ?_ | refine bi_xt2 ?_ | refine bi_xt3 ?_ | refine bi_T ?_ | refine bi_F ?_ | refine bi_not ?_ | refine bi_and ?_ | refine bi_or ?_ | refine bi_xor ?_ | refine bi_shr (by omega) (by decide) ?_ | refine bi_shl (by omega) (by decide) ?_ | refine bi_quo64 (by omega) ?_ | refine bi_rem64 (by omega) ?_ | refine bi_mul64 (by omega) ?_ | refine bi_neg ?_ | refine bi_un_xor32 ?_ | refine bi_add ?_ | refine bi_sub ?_ | refine bi_mul ?_ | refine bi_quo (by decide) ?_ | refine bi_rem (by decide) ?_)
      refine JoinP.cut (fun xs w' => xs = [] ∧ ∃ c' U', (∀ k, k < w.heap.size → c' k = c k) ∧ RefV ho c' w' go U' (N + F.length + (L.length - i)) ∧ (∀ id, U' id = (ofCl (L.drop i) id).foldr (fun p u => stepV u p) (raiseV (Va id) (Vb id).1)) ∧ Below w.heap.size w w') (fun J2 hJ2 => ?_) (fun xs w' hI => ?_)
      · refine JoinP.cut (fun xs w' => xs = [.int .i64 (lookV (U3 L[i].cl) L[i].no).1] ∧ Below w3.heap.size w3 w') (fun J3 hJ3 => ?_) (fun xs w4 hI => ?_)
        · refine draw (Below w3.heap.size w3) hdr ?_
          (repeat with_reducible first | refine yfd m0 (by decide) ?_ | refine yl1 one42 s0 ?_ | refine yixG und42 sz73 i hi' ?_ | refine yfdG o0 (by decide) ?_ | refine yl1 one3 s1 ?_ | refine yfdG o1 (by decide) ?_ | refine yl1 one3 s2 ?_ | refine ynck ?_ | refine nck ?_ | refine cdT ?_ | refine cdF ?_ | refine gdY ?_ | refine gdFT ?_ | refine gdTF ?_ | refine gdU ?_ | refine gaY ?_ | refine gaFT ?_ | refine gaTF ?_ | refine pickT ?_ | refine pickF ?_ | refine yi_lss_t (by omega) ?_ | refine yi_lss_f (by omega) ?_ | refine yi_add64 (by omega) ?_ | refine yi_sub64 (by omega) ?_ | refine yi_eql_t (by omega) ?_ | refine yi_eql_f (by omega) ?_ | refine yi_neq_t (by omega) ?_ | refine yi_neq_f (by omega) ?_ | refine yi_gtr_t (by omega) ?_ | refine yi_gtr_f (by omega) ?_ | refine yi_leq_t (by omega) ?_ | refine yi_leq_f (by omega) ?_ | refine yi_geq_t (by omega) ?_ | refine yi_geq_f (by omega) ?_ | refine yi_xt0 ?_ | refine yi_xt1 ?_ | refine yi_xt2 ?_ | refine yi_xt3 ?_ | refine yi_T ?_ | refine yi_F ?_ | refine yi_not ?_ | refine yi_and ?_ | refine yi_or ?_ | refine yi_xor ?_ | refine yi_shr (by omega) (by decide) ?_ | refine yi_shl (by omega) (by decide) ?_ | refine yi_quo64 (by omega) ?_ | refine yi_rem64 (by omega) ?_ | refine yi_mul64 (by omega) ?_ | refine yi_neg ?_ | refine yi_un_xor32 ?_ | refine yi_add ?_ | refine yi_sub ?_ | refine yi_mul ?_ | refine yi_quo (by decide) ?_ | refine yi_rem (by decide) ?_)
          refine ⟨?_, ?_, trivial⟩
          · refine act ?_
            refine (refLook_V L[i].cl L[i].no (hO3.below hdr) (by omega)).mono ?_
            rintro _ w4 ⟨p4, q4, rfl, _, _, h1p, h1q, hb4⟩
            have hb4' := below_then hdr hb4
            refine ⟨_, hb4', fun _ h => h, ?_⟩
            (repeat with_reducible first | refine ynck ?_ | refine nck ?_ | refine cdT ?_ | refine cdF ?_ | refine gdY ?_ | refine gdFT ?_ | refine gdTF ?_ | refine gdU ?_ | refine gaY ?_ | refine gaFT ?_ | refine gaTF ?_ | refine pickT ?_ | refine pickF ?_ | refine yi_lss_t (by omega) ?_ | refine yi_lss_f (by omega) ?_ | refine yi_add64 (by omega) ?_ | refine yi_sub64 (by omega) ?_ | refine yi_eql_t (by omega) ?_ | refine yi_eql_f (by omega) ?_ | refine yi_neq_t (by omega) ?_ | refine yi_neq_f (by omega) ?_ | refine yi_gtr_t (by omega) ?_ | refine yi_gtr_f (by omega) ?_ | refine yi_leq_t (by omega) ?_ | refine yi_leq_f (by omega) ?_ | refine yi_geq_t (by omega) ?_ | refine yi_geq_f (by omega) ?_ | refine yi_xt0 ?_ | refine yi_xt1 ?_ | refine yi_xt2 ?_ | refine yi_xt3 ?_ | refine yi_T ?_ | refine yi_F ?_ | refine yi_not ?_ | refine yi_and ?_ | refine yi_or ?_ | refine yi_xor ?_ | refine yi_shr (by omega) (by decide) ?_ | refine yi_shl (by omega) (by decide) ?_ | refine yi_quo64 (by omega) ?_ | refine yi_rem64 (by omega) ?_ | refine yi_mul64 (by omega) ?_ | refine yi_neg ?_ | refine yi_un_xor32 ?_ | refine yi_add ?_ | refine yi_sub ?_ | refine yi_mul ?_ | refine yi_quo (by decide) ?_ | refine yi_rem (by decide) ?_)
            refine act ?_
            refine al z27 ?_
            have hR : Blk (w4.alloc (.cells (Value.agg (zeroRep.cells (.slice none 0 0) (.slice none 0 0))).cells 27)) w4.heap.size 27 (zeroRep.cells (.slice none 0 0) (.slice none 0 0)) := Blk.new w4 27 _
            have ha := (Below.refl w4.heap.size w4).alloc (Nat.le_refl _) (.cells (Value.agg (zeroRep.cells (.slice none 0 0) (.slice none 0 0))).cells 27)
            refine ⟨_, below_then hb4' ha, fun _ h => h, ?_⟩
            refine act ?_
            refine stA hR (by exact sz27) (by rfl) (cellsR_one _ _ _ h1p h1q) ?_
            have hb5 := below_then hb4' (below_setRow ha (Nat.le_refl _) ((toldQR (lookQ U3 L[i].cl L[i].no).2).cells p4 q4))
            exact ⟨_, hb5, fun _ h => h, hJ3 _ _ ⟨by rw [hlk], hb5⟩⟩
          · refine act ?_
            refine al z27 ?_
            have hR : Blk (w3.drew.alloc (.cells (Value.agg (zeroRep.cells (.slice none 0 0) (.slice none 0 0))).cells 27)) w3.drew.heap.size 27 (zeroRep.cells (.slice none 0 0) (.slice none 0 0)) := Blk.new w3.drew 27 _
            have ha := (Below.refl w3.drew.heap.size w3.drew).alloc (Nat.le_refl _) (.cells (Value.agg (zeroRep.cells (.slice none 0 0) (.slice none 0 0))).cells 27)
            generalize w3.drew.alloc (.cells (Value.agg (zeroRep.cells (.slice none 0 0) (.slice none 0 0))).cells 27) = wa at *
            have hba := below_then hdr ha
            refine ⟨_, hba, fun _ h => h, ?_⟩
            refine act ?_
            refine (refLook_V L[i].cl L[i].no (hO3.below hba) (by omega)).mono ?_
            rintro _ w4 ⟨p4, q4, rfl, _, _, h1p, h1q, hb4⟩
            have hb4' := below_then hba hb4
            refine ⟨_, hb4', fun _ h => h, ?_⟩
            (repeat with_reducible first | refine ynck ?_ | refine nck ?_ | refine cdT ?_ | refine cdF ?_ | refine gdY ?_ | refine gdFT ?_ | refine gdTF ?_ | refine gdU ?_ | refine gaY ?_ | refine gaFT ?_ | refine gaTF ?_ | refine pickT ?_ | refine pickF ?_ | refine yi_lss_t (by omega) ?_ | refine yi_lss_f (by omega) ?_ | refine yi_add64 (by omega) ?_ | refine yi_sub64 (by omega) ?_ | refine yi_eql_t (by omega) ?_ | refine yi_eql_f (by omega) ?_ | refine yi_neq_t (by omega) ?_ | refine yi_neq_f (by omega) ?_ | refine yi_gtr_t (by omega) ?_ | refine yi_gtr_f (by omega) ?_ | refine yi_leq_t (by omega) ?_ | refine yi_leq_f (by omega) ?_ | refine yi_geq_t (by omega) ?_ | refine yi_geq_f (by omega) ?_ | refine yi_xt0 ?_ | refine yi_xt1 ?_ | refine yi_xt2 ?_ | refine yi_xt3 ?_ | refine yi_T ?_ | refine yi_F ?_ | refine yi_not ?_ | refine yi_and ?_ | refine yi_or ?_ | refine yi_xor ?_ | refine yi_shr (by omega) (by decide) ?_ | refine yi_shl (by omega) (by decide) ?_ | refine yi_quo64 (by omega) ?_ | refine yi_rem64 (by omega) ?_ | refine yi_mul64 (by omega) ?_ | refine yi_neg ?_ | refine yi_un_xor32 ?_ | refine yi_add ?_ | refine yi_sub ?_ | refine yi_mul ?_ | refine yi_quo (by decide) ?_ | refine yi_rem (by decide) ?_)
            refine act ?_
            have hR4 := hR.below' hb4
            refine stA hR4 (by exact sz27) (by rfl) (cellsR_one _ _ _ h1p h1q) ?_
            have hb5 : Below w3.heap.size w3 _ := below_setRow hb4' (show w3.heap.size ≤ w3.drew.heap.size from Nat.le_refl _) ((toldQR (lookQ U3 L[i].cl L[i].no).2).cells p4 q4)
            exact ⟨_, hb5, fun _ h => h, hJ3 _ _ ⟨by rw [hlk], hb5⟩⟩
        · obtain ⟨rfl, hb4⟩ := hI
          dsimp only [List.headD_cons, List.tail_cons]
          have hb4' := below_then hb3 hb4
          have hO4 := hO3.below hb4
          have hstep : ∀ id, (ofCl (L.drop i) id).foldr (fun p u => stepV u p) (raiseV (Va id) (Vb id).1) = if L[i].cl = id then stepV (U3 id) (pairOf L[i]) else U3 id := fun id => by
            rw [hdrop, ofCl_cons, hU3 id]
            split
            · rw [List.foldr_cons]
            · rfl
          refine bi_eql_c (fun h7 => ?_) (fun h7 => ?_)
          · have h14 : RefAt hb c3 w4 gb _ _ L F := h13.below hb4
            obtain ⟨h71, h72⟩ := lookV7 h7
            have e0 : w4.cell? ⟨gb, 0, none⟩ = some (.slice (some ⟨gL, 0, none⟩) L.length cL) := h14.blk.cell 0
            obtain ⟨gL', cL2, he, hcell4⟩ := rowAt oneF_len h14.rowL i hi' (by decide)
            cases he
            have hE := h14.el _ (List.getElem_mem hi')
            (repeat with_reducible first | refine fd m0 (by decide) ?_ | refine ld one42 e0 ?_ | refine ixG und42 sz73 i hi' ?_ | refine nck ?_ | refine cdT ?_ | refine cdF ?_ | refine gdY ?_ | refine gdFT ?_ | refine gdTF ?_ | refine gdU ?_ | refine gaY ?_ | refine gaFT ?_ | refine gaTF ?_ | refine pickT ?_ | refine pickF ?_ | refine bi_lss_t (by omega) ?_ | refine bi_lss_f (by omega) ?_ | refine bi_add64 (by omega) ?_ | refine bi_sub64 (by omega) ?_ | refine bi_eql_t (by omega) ?_ | refine bi_eql_f (by omega) ?_ | refine bi_neq_t (by omega) ?_ | refine bi_neq_f (by omega) ?_ | refine bi_gtr_t (by omega) ?_ | refine bi_gtr_f (by omega) ?_ | refine bi_leq_t (by omega) ?_ | refine bi_leq_f (by omega) ?_ | refine bi_geq_t (by omega) ?_ | refine bi_geq_f (by omega) ?_ | refine bi_xt0 ?_ | refine bi_xt1 ?_ | refine bi_xt2 ?_ | refine bi_xt3 ?_ | refine bi_T ?_ | refine bi_F ?_ | refine bi_not ?_ | refine bi_and ?_ | refine bi_or ?_ | refine bi_xor ?_ | refine bi_shr (by omega) (by decide) ?_ | refine bi_shl (by omega) (by decide) ?_ | refine bi_quo64 (by omega) ?_ | refine bi_rem64 (by omega) ?_ | refine bi_mul64 (by omega) ?_ | refine bi_neg ?_ | refine bi_un_xor32 ?_ | refine bi_add ?_ | refine bi_sub ?_ | refine bi_mul ?_ | refine bi_quo (by decide) ?_ | refine bi_rem (by decide) ?_)
            refine ldR (us := oneF L[i]) agg73 (fun k u hu => by rw [add0]; exact hcell4 k u hu) (by rw [sz73]; rfl) ?_
            refine (refPut_V L[i] hO4 hE hkey h71 h72 (by omega)).mono ?_
            rintro _ w5 ⟨c5, hc5, hO5, hT5⟩
            have hs4 := hb4'.size
            have hb5 : Below w.heap.size w4 w5 := hT5.below hs4 fun k hk e => hfree k hk (by rw [← hc3 k hk]; exact e)
            refine hJ2 _ _ ⟨rfl, c5, _, fun k hk => by rw [hc5 k (by omega), hc3 k hk], hO5.mono (by omega), fun id => ?_, hb4'.trans hb5⟩
            rw [hstep]
            unfold setV
            by_cases e : id = L[i].cl
            · subst e
              rw [if_pos rfl, if_pos rfl, stepV, if_pos (show (lookV (U3 L[i].cl) (pairOf L[i]).1).1 = 7 from h7)]; rfl
            · rw [if_neg e, if_neg (fun h => e h.symm)]
          · (repeat with_reducible first | refine nck ?_ | refine cdT ?_ | refine cdF ?_ | refine gdY ?_ | refine gdFT ?_ | refine gdTF ?_ | refine gdU ?_ | refine gaY ?_ | refine gaFT ?_ | refine gaTF ?_ | refine pickT ?_ | refine pickF ?_ | refine bi_lss_t (by omega) ?_ | refine bi_lss_f (by omega) ?_ | refine bi_add64 (by omega) ?_ | refine bi_sub64 (by omega) ?_ | refine bi_eql_t (by omega) ?_ | refine bi_eql_f (by omega) ?_ | refine bi_neq_t (by omega) ?_ | refine bi_neq_f (by omega) ?_ | refine bi_gtr_t (by omega) ?_ | refine bi_gtr_f (by omega) ?_ | refine bi_leq_t (by omega) ?_ | refine bi_leq_f (by omega) ?_ | refine bi_geq_t (by omega) ?_ | refine bi_geq_f (by omega) ?_ | refine bi_xt0 ?_ | refine bi_xt1 ?_ | refine bi_xt2 ?_ | refine bi_xt3 ?_ | refine bi_T ?_ | refine bi_F ?_ | refine bi_not ?_ | refine bi_and ?_ | refine bi_or ?_ | refine bi_xor ?_ | refine bi_shr (by omega) (by decide) ?_ | refine bi_shl (by omega) (by decide) ?_ | refine bi_quo64 (by omega) ?_ | refine bi_rem64 (by omega) ?_ | refine bi_mul64 (by omega) ?_ | refine bi_neg ?_ | refine bi_un_xor32 ?_ | refine bi_add ?_ | refine bi_sub ?_ | refine bi_mul ?_ | refine bi_quo (by decide) ?_ | refine bi_rem (by decide) ?_)
            refine hJ2 _ _ ⟨rfl, c3, U3, hc3, hO4.mono (by omega), fun id => ?_, hb4'⟩
            rw [hstep]
            split
            · rename_i e
              subst e
              rw [stepV, if_neg (show ¬ (lookV (U3 L[i].cl) (pairOf L[i]).1).1 = 7 from h7)]
            · rfl
      · obtain ⟨rfl, c5, U5, hc5, hO5, hU5, hb5⟩ := hI
        (repeat with_reducible first | refine nck ?_ | refine cdT ?_ | refine cdF ?_ | refine gdY ?_ | refine gdFT ?_ | refine gdTF ?_ | refine gdU ?_ | refine gaY ?_ | refine gaFT ?_ | refine gaTF ?_ | refine pickT ?_ | refine pickF ?_ | refine bi_lss_t (by omega) ?_ | refine bi_lss_f (by omega) ?_ | refine bi_add64 (by omega) ?_ | refine bi_sub64 (by omega) ?_ | refine bi_eql_t (by omega) ?_ | refine bi_eql_f (by omega) ?_ | refine bi_neq_t (by omega) ?_ | refine bi_neq_f (by omega) ?_ | refine bi_gtr_t (by omega) ?_ | refine bi_gtr_f (by omega) ?_ | refine bi_leq_t (by omega) ?_ | refine bi_leq_f (by omega) ?_ | refine bi_geq_t (by omega) ?_ | refine bi_geq_f (by omega) ?_ | refine bi_xt0 ?_ | refine bi_xt1 ?_ | refine bi_xt2 ?_ | refine bi_xt3 ?_ | refine bi_T ?_ | refine bi_F ?_ | refine bi_not ?_ | refine bi_and ?_ | refine bi_or ?_ | refine bi_xor ?_ | refine bi_shr (by omega) (by decide) ?_ | refine bi_shl (by omega) (by decide) ?_ | refine bi_quo64 (by omega) ?_ | refine bi_rem64 (by omega) ?_ | refine bi_mul64 (by omega) ?_ | refine bi_neg ?_ | refine bi_un_xor32 ?_ | refine bi_add ?_ | refine bi_sub ?_ | refine bi_mul ?_ | refine bi_quo (by decide) ?_ | refine bi_rem (by decide) ?_)
        exact hJ1 _ _ ⟨i, c5, U5, by omega, rfl, hc5, hO5, hU5, hb5⟩ (by simp [intOf])
    · have : j = 0 := by omega
      subst this
      (repeat with_reducible first | refine nck ?_ | refine cdT ?_ | refine cdF ?_ | refine gdY ?_ | refine gdFT ?_ | refine gdTF ?_ | refine gdU ?_ | refine gaY ?_ | refine gaFT ?_ | refine gaTF ?_ | refine pickT ?_ | refine pickF ?_ | refine bi_lss_t (by omega) ?_ | refine bi_lss_f (by omega) ?_ | refine bi_add64 (by omega) ?_ | refine bi_sub64 (by omega) ?_ | refine bi_eql_t (by omega) ?_ | refine bi_eql_f (by omega) ?_ | refine bi_neq_t (by omega) ?_ | refine bi_neq_f (by omega) ?_ | refine bi_gtr_t (by omega) ?_ | refine bi_gtr_f (by omega) ?_ | refine bi_leq_t (by omega) ?_ | refine bi_leq_f (by omega) ?_ | refine bi_geq_t (by omega) ?_ | refine bi_geq_f (by omega) ?_ | refine bi_xt0 ?_ | refine bi_xt1 ?_ | refine bi_xt2 ?_ | refine bi_xt3 ?_ | refine bi_T ?_ | refine bi_F ?_ | refine bi_not ?_ | refine bi_and ?_ | refine bi_or ?_ | refine bi_xor ?_ | refine bi_shr (by omega) (by decide) ?_ | refine bi_shl (by omega) (by decide) ?_ | refine bi_quo64 (by omega) ?_ | refine bi_rem64 (by omega) ?_ | refine bi_mul64 (by omega) ?_ | refine bi_neg ?_ | refine bi_un_xor32 ?_ | refine bi_add ?_ | refine bi_sub ?_ | refine bi_mul ?_ | refine bi_quo (by decide) ?_ | refine bi_rem (by decide) ?_)
      have hfin : U3 = fun id => joinV (Va id) (Vb id) := by
        funext id
        rw [hU3 id, List.drop_zero, h2.l, ref_join (gA id) (gB id)]
      rw [hfin] at hO3
      exact ⟨go, c3, rfl, hc3, hO3.mono (by omega), hb3⟩
end Go.Proofs.Ytmnaggdhkggjhaa.E
/- OnceJoins: two tables together know what the document says. -/
namespace Go.Proofs.Ytmnaggdhkggjhaa.E
open Go Go.RowKit
set_option linter.unusedSimpArgs false
set_option linter.unusedVariables false

/-- Colours above n are given up. -/
def clr (n : Nat) (c : Nat → Nat) : Nat → Nat := fun k => if c k % 1000 ≤ n ∨ c k = 999 then c k else 0
theorem clr_zero {n : Nat} {c : Nat → Nat} {k : Nat} (h : c k = 0) : clr n c k = 0 := by simp only [clr]; rw [if_pos (.inl (by rw [h]; omega)), h]
theorem clr_free {n ho : Nat} (h : n < ho) (h9 : ho < 999) (c : Nat → Nat) (k : Nat) : clr n c k % 1000 ≠ ho := by
  simp only [clr]
  split
  · rename_i h; rcases h with h | h <;> omega
  · omega
theorem TabV.clr {hu n : Nat} {c : Nat → Nat} {w : World} {g : Nat} {V : Int → VC} {N : Nat} (h : TabV hu c w g V N) (hn : hu ≤ n) : TabV hu (clr n c) w g V N := h.re1 fun k _ hk => by
  simp only [E.clr]; rw [if_pos (.inl (by omega))]
theorem RefV.clr {hu n : Nat} {c : Nat → Nat} {w : World} {g : Nat} {V : Int → VC} {N : Nat} (h : RefV hu c w g V N) (hn : hu ≤ n) : RefV hu (clr n c) w g V N := by
  obtain ⟨vL, vF, L, F, h1, h2⟩ := h.out
  have e1 : ∀ k, c k = hu → E.clr n c k = c k := fun k hk => by
    have := h1.hh
    simp only [E.clr]; rw [if_pos (.inl (by omega))]
  have e2 : ∀ k, c k = 999 → E.clr n c k = c k := fun k hk => by simp only [E.clr]; rw [if_pos (.inr hk)]
  exact ⟨h.good, vL, vF, L, F, ⟨h1.hh, (e1 _ h1.hue).trans h1.hue, h1.blk, h1.rowL, h1.rowF, fun k hk => (e1 k (h1.hueL k hk)).trans (h1.hueL k hk), fun k hk => (e1 k (h1.hueF k hk)).trans (h1.hueF k hk), fun x hx => (h1.el x hx).re' fun k hk => e2 k ((h1.el x hx).hue k hk)⟩, h2⟩
theorem keepT {c : Nat → Nat} {w : World} {g0 g1 : Nat} {V U : Int → VC} {N : Nat} (b : Bool) (id n : Int) (R : Rep) (p q : Value) (vs : List ValT) (rows : List RowT) (hA : TabV 1 c w g0 V N) (hB : TabV 2 c w g1 U N)
    (hp : Vals w [p] vs) (hpc : ∀ hu, 0 < hu → (vs = [] ∨ ∀ k, p.ownBlock = some k → c k % 1000 ≠ hu)) (hq : RowsR w [q] rows) (hvl : vs.length ≤ 1000) (hN : N < 1000000) :
    CallP Try.prog 11 #[.pointer (some ⟨if b then g1 else g0, 0, none⟩), .int .i64 id, .int .i64 n, .agg (R.cells p q)]
      (fun r w' => ∃ c', (∀ k, k < w.heap.size → c' k = c k) ∧ TabV 1 c' w' g0 (if b then V else (keepQ V id n R vs rows.length).2) (N + 1) ∧ TabV 2 c' w' g1 (if b then (keepQ U id n R vs rows.length).2 else U) (N + 1) ∧ Turns (fun k => c k % 1000 = 1 ∨ c k % 1000 = 2) w w') w := by
  cases b with
  | false =>
    refine (Keep_V id n R p q vs rows hA hp (hpc 1 (by decide)) hq hvl hN).mono ?_
    rintro _ w' ⟨rfl, c', hc, hT, hTu⟩
    exact ⟨c', hc, hT, (hB.other hTu (by decide) hc).mono (by omega), hTu.mono fun k _ e => .inl e⟩
  | true =>
    refine (Keep_V id n R p q vs rows hB hp (hpc 2 (by decide)) hq hvl hN).mono ?_
    rintro _ w' ⟨rfl, c', hc, hT, hTu⟩
    exact ⟨c', hc, (hA.other hTu (by decide) hc).mono (by omega), hT, hTu.mono fun k _ e => .inr e⟩
theorem keepM {c : Nat → Nat} {w : World} {g0 g1 : Nat} {V U : Int → VC} {N : Nat} (b : Bool) (id n : Int) (R : Rep) (p q : Value) (vs : List ValT) (rows : List RowT) (hA : RefV 3 c w g0 V N) (hB : RefV 4 c w g1 U N)
    (hp : Vals w [p] vs) (hq : RowsR w [q] rows) (hvl : vs.length ≤ 1000) (hN : N ≤ 60000) :
    CallP Try.prog 16 #[.pointer (some ⟨if b then g1 else g0, 0, none⟩), .int .i64 id, .int .i64 n, .agg (R.cells p q)]
      (fun r w' => ∃ c', (∀ k, k < w.heap.size → c' k = c k) ∧ RefV 3 c' w' g0 (if b then V else (keepQ V id n R vs rows.length).2) (N + 1) ∧ RefV 4 c' w' g1 (if b then (keepQ U id n R vs rows.length).2 else U) (N + 1) ∧ Turns (fun k => c k % 1000 = 3 ∨ c k % 1000 = 4) w w') w := by
  cases b with
  | false =>
    refine (refKeep_V id n R p q vs rows hA hp hq hvl hN).mono ?_
    rintro _ w' ⟨rfl, c', hc, hT, hTu⟩
    exact ⟨c', hc, hT, (hB.on hTu (by decide) (by decide) hc).mono (by omega), hTu.mono fun k _ e => .inl e⟩
  | true =>
    refine (refKeep_V id n R p q vs rows hB hp hq hvl hN).mono ?_
    rintro _ w' ⟨rfl, c', hc, hT, hTu⟩
    exact ⟨c', hc, (hA.on hTu (by decide) (by decide) hc).mono (by omega), hT, hTu.mono fun k _ e => .inr e⟩
theorem TabV.on {hu : Nat} {c c' : Nat → Nat} {w w' : World} {g : Nat} {V : Int → VC} {N : Nat} {G : Nat → Prop} (h : TabV hu c w g V N) (hT : Turns G w w') (hG : ∀ k, G k → c k % 1000 ≠ hu) (hc : ∀ k, k < w.heap.size → c' k = c k) : TabV hu c' w' g V N :=
  (h.re hc).turns hT.cut fun k hk => by rw [hc k hk.2]; exact hG k hk.1
theorem RefV.on' {hu : Nat} {c c' : Nat → Nat} {w w' : World} {g : Nat} {V : Int → VC} {N : Nat} {G : Nat → Prop} (h : RefV hu c w g V N) (hT : Turns G w w') (hG : ∀ k, G k → c k % 1000 ≠ hu ∧ c k ≠ 999) (hc : ∀ k, k < w.heap.size → c' k = c k) : RefV hu c' w' g V N :=
  (h.re hc).turns hT.cut fun k hk => by rw [hc k hk.2]; exact hG k hk.1
theorem und56 : Try.prog.underlying 56 = some (.array 2 41) := by kernel_rfl
theorem sz56 : (Try.prog.info? 56).map (·.size) = some 2 := by kernel_rfl
theorem sz41 : (Try.prog.info? 41).map (·.size) = some 1 := by kernel_rfl
theorem one41 : oneB Try.prog 41 = true := by kernel_rfl
theorem z56 : (Try.prog.info? 56).bind (·.zero) = some (.agg #[.pointer none, .pointer none]) := by kernel_rfl
/-- What the first loop bears. -/
structure JoinsAt (w0 : World) (bt bm : Nat) (c : Nat → Nat) (w : World) (g0 g1 m0 m1 : Nat) (V U : Int → VC) (N : Nat) : Prop where
  a : TabV 1 c w g0 V N
  b : TabV 2 c w g1 U N
  x : RefV 3 c w m0 V N
  y : RefV 4 c w m1 U N
  inV : InP V
  inU : InP U
  old : ∀ k, k < w0.heap.size → c k = 0
  ct : c bt = 0
  cm : c bm = 0
  blkt : Blk w bt 54 #[.pointer (some ⟨g0, 0, none⟩), .pointer (some ⟨g1, 0, none⟩)]
  blkm : Blk w bm 56 #[.pointer (some ⟨m0, 0, none⟩), .pointer (some ⟨m1, 0, none⟩)]
  bel : Below w0.heap.size w0 w
theorem JoinsAt.below {w0 : World} {bt bm : Nat} {c : Nat → Nat} {w w' : World} {g0 g1 m0 m1 : Nat} {V U : Int → VC} {N : Nat} (h : JoinsAt w0 bt bm c w g0 g1 m0 m1 V U N) (hb : Below w.heap.size w w') : JoinsAt w0 bt bm (col c w.heap.size 0) w' g0 g1 m0 m1 V U N :=
  have hc := col_lt c w.heap.size 0
  ⟨(h.a.re hc).below hb, (h.b.re hc).below hb, (h.x.re hc).below hb, (h.y.re hc).below hb, h.inV, h.inU, fun k hk => by rw [hc k (by have := h.bel.size; omega)]; exact h.old k hk, by rw [hc _ h.blkt.lt]; exact h.ct, by rw [hc _ h.blkm.lt]; exact h.cm, h.blkt.below' hb, h.blkm.below' hb, below_then h.bel hb⟩
end Go.Proofs.Ytmnaggdhkggjhaa.E
/- OnceJoins: the walk. -/
namespace Go.Proofs.Ytmnaggdhkggjhaa.E
open Go Go.RowKit
set_option linter.unusedSimpArgs false
set_option linter.unusedVariables false

theorem zeroRep_vals (w : World) : Vals w [.slice none 0 0] [] := Vals.nil w
theorem OnceJoins_spec (v : Value) (l : List ActT) (w : World) (hv : Acts w [v] l) :
    CallP Try.prog 7 #[v] (fun r w' => r = .bool true ∧ Below w.heap.size w w') w := by
  obtain ⟨A, cA, rfl, _, hmA⟩ := hv.slice
  refine ⟨S7.calls _ _ _ ?_⟩
  unfold S7
  refine (awake_spec w).mono ?_
  rintro _ w1 ⟨rfl, hb1⟩
  (repeat with_reducible first | refine nck ?_ | refine cdT ?_ | refine cdF ?_ | refine gdY ?_ | refine gdFT ?_ | refine gdTF ?_ | refine gdU ?_ | refine gaY ?_ | refine gaFT ?_ | refine gaTF ?_ | refine pickT ?_ | refine pickF ?_ | refine bi_lss_t (by omega) ?_ | refine bi_lss_f (by omega) ?_ | refine bi_add64 (by omega) ?_ | refine bi_sub64 (by omega) ?_ | refine bi_eql_t (by omega) ?_ | refine bi_eql_f (by omega) ?_ | refine bi_neq_t (by omega) ?_ | refine bi_neq_f (by omega) ?_ | refine bi_gtr_t (by omega) ?_ | refine bi_gtr_f (by omega) ?_ | refine bi_leq_t (by omega) ?_ | refine bi_leq_f (by omega) ?_ | refine bi_geq_t (by omega) ?_ | refine bi_geq_f (by omega) ?_ | refine bi_xt0 ?_ | refine bi_xt1 ?_ | refine bi_xt2 ?_ | refine bi_xt3 ?_ | refine bi_T ?_ | refine bi_F ?_ | refine bi_not ?_ | refine bi_and ?_ | refine bi_or ?_ | refine bi_xor ?_ | refine bi_shr (by omega) (by decide) ?_ | refine bi_shl (by omega) (by decide) ?_ | refine bi_quo64 (by omega) ?_ | refine bi_rem64 (by omega) ?_ | refine bi_mul64 (by omega) ?_ | refine bi_neg ?_ | refine bi_un_xor32 ?_ | refine bi_add ?_ | refine bi_sub ?_ | refine bi_mul ?_ | refine bi_quo (by decide) ?_ | refine bi_rem (by decide) ?_)
  refine (lightActs_spec _ l w1 (keeps_Acts _ _ _ _ hb1 hv)).mono ?_
  rintro _ _ ⟨b, rfl, hlight, rfl⟩
  cases b with
  | false =>
    (repeat with_reducible first | refine nck ?_ | refine cdT ?_ | refine cdF ?_ | refine gdY ?_ | refine gdFT ?_ | refine gdTF ?_ | refine gdU ?_ | refine gaY ?_ | refine gaFT ?_ | refine gaTF ?_ | refine pickT ?_ | refine pickF ?_ | refine bi_lss_t (by omega) ?_ | refine bi_lss_f (by omega) ?_ | refine bi_add64 (by omega) ?_ | refine bi_sub64 (by omega) ?_ | refine bi_eql_t (by omega) ?_ | refine bi_eql_f (by omega) ?_ | refine bi_neq_t (by omega) ?_ | refine bi_neq_f (by omega) ?_ | refine bi_gtr_t (by omega) ?_ | refine bi_gtr_f (by omega) ?_ | refine bi_leq_t (by omega) ?_ | refine bi_leq_f (by omega) ?_ | refine bi_geq_t (by omega) ?_ | refine bi_geq_f (by omega) ?_ | refine bi_xt0 ?_ | refine bi_xt1 ?_ | refine bi_xt2 ?_ | refine bi_xt3 ?_ | refine bi_T ?_ | refine bi_F ?_ | refine bi_not ?_ | refine bi_and ?_ | refine bi_or ?_ | refine bi_xor ?_ | refine bi_shr (by omega) (by decide) ?_ | refine bi_shl (by omega) (by decide) ?_ | refine bi_quo64 (by omega) ?_ | refine bi_rem64 (by omega) ?_ | refine bi_mul64 (by omega) ?_ | refine bi_neg ?_ | refine bi_un_xor32 ?_ | refine bi_add ?_ | refine bi_sub ?_ | refine bi_mul ?_ | refine bi_quo (by decide) ?_ | refine bi_rem (by decide) ?_)
    exact ⟨rfl, hb1⟩
  | true =>
  obtain ⟨hl100, hla⟩ := hlight rfl
  (repeat with_reducible first | refine nck ?_ | refine cdT ?_ | refine cdF ?_ | refine gdY ?_ | refine gdFT ?_ | refine gdTF ?_ | refine gdU ?_ | refine gaY ?_ | refine gaFT ?_ | refine gaTF ?_ | refine pickT ?_ | refine pickF ?_ | refine bi_lss_t (by omega) ?_ | refine bi_lss_f (by omega) ?_ | refine bi_add64 (by omega) ?_ | refine bi_sub64 (by omega) ?_ | refine bi_eql_t (by omega) ?_ | refine bi_eql_f (by omega) ?_ | refine bi_neq_t (by omega) ?_ | refine bi_neq_f (by omega) ?_ | refine bi_gtr_t (by omega) ?_ | refine bi_gtr_f (by omega) ?_ | refine bi_leq_t (by omega) ?_ | refine bi_leq_f (by omega) ?_ | refine bi_geq_t (by omega) ?_ | refine bi_geq_f (by omega) ?_ | refine bi_xt0 ?_ | refine bi_xt1 ?_ | refine bi_xt2 ?_ | refine bi_xt3 ?_ | refine bi_T ?_ | refine bi_F ?_ | refine bi_not ?_ | refine bi_and ?_ | refine bi_or ?_ | refine bi_xor ?_ | refine bi_shr (by omega) (by decide) ?_ | refine bi_shl (by omega) (by decide) ?_ | refine bi_quo64 (by omega) ?_ | refine bi_rem64 (by omega) ?_ | refine bi_mul64 (by omega) ?_ | refine bi_neg ?_ | refine bi_un_xor32 ?_ | refine bi_add ?_ | refine bi_sub ?_ | refine bi_mul ?_ | refine bi_quo (by decide) ?_ | refine bi_rem (by decide) ?_)
  refine (New_V 1 (by decide) (fun _ => 0) w1).mono ?_
  rintro _ w2 ⟨ga, c2, rfl, hc2, h2, hb2⟩
  refine (New_V 2 (by decide) c2 w2).mono ?_
  rintro _ w3 ⟨gb, c3, rfl, hc3, h3, hb3⟩
  have h3a : TabV 1 c3 w3 ga V0 0 := (h2.re hc3).below hb3
  have hb3' := below_then (below_then hb1 hb2) hb3
  have hs1 := hb1.size
  have hs2 := hb2.size
  have hs3 := hb3.size
  have hz3 : ∀ k, k < w.heap.size → c3 k = 0 := fun k hk => by rw [hc3 k (by omega), hc2 k (by omega)]
  refine bd (cells := #[.pointer (some ⟨ga, 0, none⟩), .pointer (some ⟨gb, 0, none⟩)]) (by kernel_rfl) ?_
  refine al z54 ?_
  have hB4 : Blk (w3.alloc (.cells (Value.agg #[.pointer none, .pointer none]).cells 54)) w3.heap.size 54 #[.pointer none, .pointer none] := Blk.new w3 54 _
  have ha4 := (Below.refl w3.heap.size w3).alloc (Nat.le_refl _) (.cells (Value.agg #[.pointer none, .pointer none]).cells 54)
  refine stA hB4 (by exact sz54) (by rfl) (by rw [← Array.all_toList]; rfl) ?_
  have hB5 := hB4.row #[.pointer (some ⟨ga, 0, none⟩), .pointer (some ⟨gb, 0, none⟩)]
  have hb5 : Below w3.heap.size w3 _ := below_setRow ha4 (Nat.le_refl _) #[.pointer (some ⟨ga, 0, none⟩), .pointer (some ⟨gb, 0, none⟩)]
  generalize (w3.alloc (.cells (Value.agg #[.pointer none, .pointer none]).cells 54)).setRow w3.heap.size #[.pointer (some ⟨ga, 0, none⟩), .pointer (some ⟨gb, 0, none⟩)] = w5 at *
  have hcol := col_lt c3 w3.heap.size 0
  have hct : col c3 w3.heap.size 0 w3.heap.size = 0 := col_ge _ _ _ (Nat.le_refl _)
  have ha5 := (h3a.re hcol).below hb5
  have hbb5 := (h3.re hcol).below hb5
  have hz5 : ∀ k, k < w.heap.size → col c3 w3.heap.size 0 k = 0 := fun k hk => by rw [hcol k (by omega), hz3 k hk]
  have hb5' := below_then hb3' hb5
  generalize col c3 w3.heap.size 0 = c5 at *
  generalize hbt : w3.heap.size = bt at *
  -- the reference's tables
  refine bd (cells := #[.slice none 0 0, .slice none 0 0]) (by kernel_rfl) ?_
  refine bx ?_
  have hb6 := (Below.refl w5.heap.size w5).alloc (Nat.le_refl _) (.cells (Value.agg #[.slice none 0 0, .slice none 0 0]).cells 45)
  have hx6 := newRef_V (hu := 3) (by decide) c5 w5
  have hcol6 := col_lt c5 w5.heap.size 3
  have ha6 := (ha5.re hcol6).below hb6
  have hbb6 := (hbb5.re hcol6).below hb6
  have hB6 := hB5.below' hb6
  have hb6' := below_then hb5' hb6
  have hs5 := hb5'.size
  have hbtl := hB5.lt
  have hz6 : ∀ k, k < w.heap.size → col c5 w5.heap.size 3 k = 0 := fun k hk => by rw [hcol6 k (by omega), hz5 k hk]
  have hct6 : col c5 w5.heap.size 3 bt = 0 := by rw [hcol6 bt hbtl, hct]
  generalize col c5 w5.heap.size 3 = c6 at *
  generalize w5.alloc (.cells (Value.agg #[.slice none 0 0, .slice none 0 0]).cells 45) = w6 at *
  generalize w5.heap.size = m0' at *
  refine bd (cells := #[.slice none 0 0, .slice none 0 0]) (by kernel_rfl) ?_
  refine bx ?_
  have hb7 := (Below.refl w6.heap.size w6).alloc (Nat.le_refl _) (.cells (Value.agg #[.slice none 0 0, .slice none 0 0]).cells 45)
  have hy7 := newRef_V (hu := 4) (by decide) c6 w6
  have hcol7 := col_lt c6 w6.heap.size 4
  have ha7 := (ha6.re hcol7).below hb7
  have hbb7 := (hbb6.re hcol7).below hb7
  have hx7 := (hx6.re hcol7).below hb7
  have hB7 := hB6.below' hb7
  have hb7' := below_then hb6' hb7
  have hs6 := hb6'.size
  have hbtl6 := hB6.lt
  have hz7 : ∀ k, k < w.heap.size → col c6 w6.heap.size 4 k = 0 := fun k hk => by rw [hcol7 k (by omega), hz6 k hk]
  have hct7 : col c6 w6.heap.size 4 bt = 0 := by rw [hcol7 bt hbtl6, hct6]
  generalize col c6 w6.heap.size 4 = c7 at *
  generalize w6.alloc (.cells (Value.agg #[.slice none 0 0, .slice none 0 0]).cells 45) = w7 at *
  generalize w6.heap.size = m1' at *
  refine bd (cells := #[.pointer (some ⟨m0', 0, none⟩), .pointer (some ⟨m1', 0, none⟩)]) (by kernel_rfl) ?_
  refine al z56 ?_
  have hB8 : Blk (w7.alloc (.cells (Value.agg #[.pointer none, .pointer none]).cells 56)) w7.heap.size 56 #[.pointer none, .pointer none] := Blk.new w7 56 _
  have ha8 := (Below.refl w7.heap.size w7).alloc (Nat.le_refl _) (.cells (Value.agg #[.pointer none, .pointer none]).cells 56)
  refine stA hB8 (by exact sz56) (by rfl) (by rw [← Array.all_toList]; rfl) ?_
  have hB9 := hB8.row #[.pointer (some ⟨m0', 0, none⟩), .pointer (some ⟨m1', 0, none⟩)]
  have hb9 : Below w7.heap.size w7 _ := below_setRow ha8 (Nat.le_refl _) #[.pointer (some ⟨m0', 0, none⟩), .pointer (some ⟨m1', 0, none⟩)]
  generalize (w7.alloc (.cells (Value.agg #[.pointer none, .pointer none]).cells 56)).setRow w7.heap.size #[.pointer (some ⟨m0', 0, none⟩), .pointer (some ⟨m1', 0, none⟩)] = w9 at *
  have hcol9 := col_lt c7 w7.heap.size 0
  have hs7 := hb7'.size
  have hI0 : JoinsAt w bt w7.heap.size (col c7 w7.heap.size 0) w9 ga gb m0' m1' V0 V0 0 :=
    ⟨(ha7.re hcol9).below hb9, (hbb7.re hcol9).below hb9, (hx7.re hcol9).below hb9, (hy7.re hcol9).below hb9, inP0, inP0, fun k hk => by rw [hcol9 k (by omega), hz7 k hk], by rw [hcol9 bt hB7.lt, hct7], col_ge _ _ _ (Nat.le_refl _), hB7.below' hb9, hB9, below_then hb7' hb9⟩
  generalize hbm : w7.heap.size = bm at *
  refine LoopP.inv1 (fun iv w' => ∃ (i : Nat) (c : Nat → Nat) (V U : Int → VC), i ≤ l.length ∧ iv = .int .i64 i ∧ JoinsAt w bt bm c w' ga gb m0' m1' V U i) (fun iv _ => l.length - (intOf iv).toNat)
    ⟨0, _, V0, V0, by omega, rfl, hI0⟩ ?_
  rintro _ w10 ⟨i, c, V, U, hi, rfl, I⟩ J hJ
  dsimp only [List.headD_cons, List.tail_cons]
  refine ln und39 ?_
  refine bi_lss_c (fun h => ?_) (fun h => ?_)
  · have hi' : i < l.length := by omega
    obtain ⟨a, p, q, rfl, hcell, hp, hq⟩ := act_whole hv i hi'
    have hla' := hla l[i] (List.getElem_mem hi')
    have hbel := I.bel
    have hus : ∀ j u, (kaF (l[i], p, q))[j]? = some u → w10.cell? ((a.add (i * 8)).add j) = some u := fun j u hu => by rw [hbel.cell (World.block_lt_of_cell? _ _ (hcell j u hu)), hcell j u hu]
    have h1p : p.oneCell' = true := by obtain ⟨A, c, e, _⟩ := hp.slice; rw [e]; rfl
    have h1q : q.oneCell' = true := by obtain ⟨A, c, e, _⟩ := hq.slice; rw [e]; rfl
    (repeat with_reducible first | refine nck ?_ | refine cdT ?_ | refine cdF ?_ | refine gdY ?_ | refine gdFT ?_ | refine gdTF ?_ | refine gdU ?_ | refine gaY ?_ | refine gaFT ?_ | refine gaTF ?_ | refine pickT ?_ | refine pickF ?_ | refine bi_lss_t (by omega) ?_ | refine bi_lss_f (by omega) ?_ | refine bi_add64 (by omega) ?_ | refine bi_sub64 (by omega) ?_ | refine bi_eql_t (by omega) ?_ | refine bi_eql_f (by omega) ?_ | refine bi_neq_t (by omega) ?_ | refine bi_neq_f (by omega) ?_ | refine bi_gtr_t (by omega) ?_ | refine bi_gtr_f (by omega) ?_ | refine bi_leq_t (by omega) ?_ | refine bi_leq_f (by omega) ?_ | refine bi_geq_t (by omega) ?_ | refine bi_geq_f (by omega) ?_ | refine bi_xt0 ?_ | refine bi_xt1 ?_ | refine bi_xt2 ?_ | refine bi_xt3 ?_ | refine bi_T ?_ | refine bi_F ?_ | refine bi_not ?_ | refine bi_and ?_ | refine bi_or ?_ | refine bi_xor ?_ | refine bi_shr (by omega) (by decide) ?_ | refine bi_shl (by omega) (by decide) ?_ | refine bi_quo64 (by omega) ?_ | refine bi_rem64 (by omega) ?_ | refine bi_mul64 (by omega) ?_ | refine bi_neg ?_ | refine bi_un_xor32 ?_ | refine bi_add ?_ | refine bi_sub ?_ | refine bi_mul ?_ | refine bi_quo (by decide) ?_ | refine bi_rem (by decide) ?_)
    refine ixN und39 sz47 i hi' ?_
    refine ldR agg47 hus (by rw [sz47]; rfl) ?_
    refine al z47 ?_
    have hB11 := Blk.new w10 47 (Value.agg #[.int .i64 0, .int .i64 0, .int .i64 0, .int .i64 0, .bool false, .slice none 0 0, .slice none 0 0, .int .i64 0]).cells
    have ha11 := (Below.refl w10.heap.size w10).alloc (Nat.le_refl _) (.cells (Value.agg #[.int .i64 0, .int .i64 0, .int .i64 0, .int .i64 0, .bool false, .slice none 0 0, .slice none 0 0, .int .i64 0]).cells 47)
    refine stA hB11 (by rw [sz47]; rfl) (by rfl) (by
      rw [← Array.all_toList, List.all_eq_true]
      exact fun u hu => one_ka (l[i], p, q) h1p h1q u hu) ?_
    have hK11 := hB11.row (kaF (l[i], p, q)).toArray
    have hb11 : Below w10.heap.size w10 _ := below_setRow ha11 (Nat.le_refl _) (kaF (l[i], p, q)).toArray
    generalize (w10.alloc (.cells (Value.agg #[.int .i64 0, .int .i64 0, .int .i64 0, .int .i64 0, .bool false, .slice none 0 0, .slice none 0 0, .int .i64 0]).cells 47)).setRow w10.heap.size (kaF (l[i], p, q)).toArray = w11 at *
    have hdr : Below w11.heap.size w11 w11.drew := (Below.refl _ _).drew
    have hcK : col c w10.heap.size 0 w10.heap.size = 0 := col_ge _ _ _ (Nat.le_refl _)
    have I11 := I.below (below_then hb11 hdr)
    have hK12 := hK11.below' hdr
    generalize col c w10.heap.size 0 = c11 at *
    generalize w10.heap.size = gk at *
    obtain ⟨bs, hbs⟩ : ∃ bs : Bool, bits .and .i64 l[i].1 1 = ((if bs then 1 else 0 : Nat) : Int) := by
      rcases and1 l[i].1 with e | e
      · exact ⟨false, e⟩
      · exact ⟨true, e⟩
    have sz : (Try.prog.info? 27).map (·.size) = some (l[i].rep.cells p q).toList.length := by rw [sz27]; rfl
    have e0 : ∀ w', (Blk w' gk 47 (kaF (l[i], p, q)).toArray ∧ Blk w' bt 54 #[.pointer (some ⟨ga, 0, none⟩), .pointer (some ⟨gb, 0, none⟩)]) → w'.cell? ⟨gk, 0, none⟩ = some (.int .i64 l[i].1) := fun w' h => h.1.cell 0
    have e1 : ∀ w', (Blk w' gk 47 (kaF (l[i], p, q)).toArray ∧ Blk w' bt 54 #[.pointer (some ⟨ga, 0, none⟩), .pointer (some ⟨gb, 0, none⟩)]) → w'.cell? ⟨gk, 1, none⟩ = some (.int .i64 l[i].cl) := fun w' h => h.1.cell 1
    have e2 : ∀ w', (Blk w' gk 47 (kaF (l[i], p, q)).toArray ∧ Blk w' bt 54 #[.pointer (some ⟨ga, 0, none⟩), .pointer (some ⟨gb, 0, none⟩)]) → w'.cell? ⟨gk, 2, none⟩ = some (.int .i64 l[i].no) := fun w' h => h.1.cell 2
    have e3 : ∀ w', (Blk w' gk 47 (kaF (l[i], p, q)).toArray ∧ Blk w' bt 54 #[.pointer (some ⟨ga, 0, none⟩), .pointer (some ⟨gb, 0, none⟩)]) → ∀ j u, (l[i].rep.cells p q).toList[j]? = some u → w'.cell? ((⟨gk, 3, none⟩ : Addr).add j) = some u := fun w' h j u hu => by
      rw [add0, h.1.cell]
      have : (kaF (l[i], p, q))[3 + j]? = some u := by rw [← hu, show 3 + j = j + 3 from by omega]; rfl
      simpa using this
    have rp : ∀ w', (Blk w' gk 47 (kaF (l[i], p, q)).toArray ∧ Blk w' bt 54 #[.pointer (some ⟨ga, 0, none⟩), .pointer (some ⟨gb, 0, none⟩)]) → w'.cell? ⟨bt, (if bs then 1 else 0 : Nat), none⟩ = some (.pointer (some ⟨if bs then gb else ga, 0, none⟩)) := fun w' h => by
      have := h.2.cell (if bs then 1 else 0)
      rw [this]
      cases bs <;> rfl
    refine draw (fun w' => Blk w' gk 47 (kaF (l[i], p, q)).toArray ∧ Blk w' bt 54 #[.pointer (some ⟨ga, 0, none⟩), .pointer (some ⟨gb, 0, none⟩)]) ⟨hK12, I11.blkt⟩ ?_
    (repeat with_reducible first | refine yfd q0 (by decide) ?_ | refine yl1 one3 e0 ?_ | refine ynck ?_ | refine nck ?_ | refine cdT ?_ | refine cdF ?_ | refine gdY ?_ | refine gdFT ?_ | refine gdTF ?_ | refine gdU ?_ | refine gaY ?_ | refine gaFT ?_ | refine gaTF ?_ | refine pickT ?_ | refine pickF ?_ | refine yi_lss_t (by omega) ?_ | refine yi_lss_f (by omega) ?_ | refine yi_add64 (by omega) ?_ | refine yi_sub64 (by omega) ?_ | refine yi_eql_t (by omega) ?_ | refine yi_eql_f (by omega) ?_ | refine yi_neq_t (by omega) ?_ | refine yi_neq_f (by omega) ?_ | refine yi_gtr_t (by omega) ?_ | refine yi_gtr_f (by omega) ?_ | refine yi_leq_t (by omega) ?_ | refine yi_leq_f (by omega) ?_ | refine yi_geq_t (by omega) ?_ | refine yi_geq_f (by omega) ?_ | refine yi_xt0 ?_ | refine yi_xt1 ?_ | refine yi_xt2 ?_ | refine yi_xt3 ?_ | refine yi_T ?_ | refine yi_F ?_ | refine yi_not ?_ | refine yi_and ?_ | refine yi_or ?_ | refine yi_xor ?_ | refine yi_shr (by omega) (by decide) ?_ | refine yi_shl (by omega) (by decide) ?_ | refine yi_quo64 (by omega) ?_ | refine yi_rem64 (by omega) ?_ | refine yi_mul64 (by omega) ?_ | refine yi_neg ?_ | refine yi_un_xor32 ?_ | refine yi_add ?_ | refine yi_sub ?_ | refine yi_mul ?_ | refine yi_quo (by decide) ?_ | refine yi_rem (by decide) ?_)
    rw [hbs]
    refine yixB und54 sz30 _ (by cases bs <;> decide) ?_
    refine yl1 one30 rp ?_
    (repeat with_reducible first | refine yfd q1 (by decide) ?_ | refine yl1 one3 e1 ?_ | refine yfd q2 (by decide) ?_ | refine yl1 one3 e2 ?_ | refine yfd q3 (by decide) ?_ | refine ynck ?_ | refine nck ?_ | refine cdT ?_ | refine cdF ?_ | refine gdY ?_ | refine gdFT ?_ | refine gdTF ?_ | refine gdU ?_ | refine gaY ?_ | refine gaFT ?_ | refine gaTF ?_ | refine pickT ?_ | refine pickF ?_ | refine yi_lss_t (by omega) ?_ | refine yi_lss_f (by omega) ?_ | refine yi_add64 (by omega) ?_ | refine yi_sub64 (by omega) ?_ | refine yi_eql_t (by omega) ?_ | refine yi_eql_f (by omega) ?_ | refine yi_neq_t (by omega) ?_ | refine yi_neq_f (by omega) ?_ | refine yi_gtr_t (by omega) ?_ | refine yi_gtr_f (by omega) ?_ | refine yi_leq_t (by omega) ?_ | refine yi_leq_f (by omega) ?_ | refine yi_geq_t (by omega) ?_ | refine yi_geq_f (by omega) ?_ | refine yi_xt0 ?_ | refine yi_xt1 ?_ | refine yi_xt2 ?_ | refine yi_xt3 ?_ | refine yi_T ?_ | refine yi_F ?_ | refine yi_not ?_ | refine yi_and ?_ | refine yi_or ?_ | refine yi_xor ?_ | refine yi_shr (by omega) (by decide) ?_ | refine yi_shl (by omega) (by decide) ?_ | refine yi_quo64 (by omega) ?_ | refine yi_rem64 (by omega) ?_ | refine yi_mul64 (by omega) ?_ | refine yi_neg ?_ | refine yi_un_xor32 ?_ | refine yi_add ?_ | refine yi_sub ?_ | refine yi_mul ?_ | refine yi_quo (by decide) ?_ | refine yi_rem (by decide) ?_)
    refine yldR agg27 e3 sz ?_
    rw [Array.toArray_toList]
    have hp12 := keeps_Vals _ _ _ _ I11.bel hp
    have hq12 := keeps_RowsR _ _ _ _ I11.bel hq
    refine (keepT bs l[i].cl l[i].no l[i].rep p q l[i].vs l[i].rows I11.a I11.b hp12 (fun hu hhu => hp.hue I11.old hhu) hq12 (by have := hla'.1; omega) (by omega)).mono ?_
    rintro _ w13 ⟨c13, hc13, hA13, hB13, hT13⟩
    have hsd := I11.bel.size
    have hK13 := hK12.turns hT13 (fun e => by rw [hcK] at e; omega)
    have hb13 : Below w.heap.size w11.drew w13 := hT13.below hsd fun k hk e => by rw [I11.old k hk] at e; omega
    have hbel13 := I11.bel.trans hb13
    have hx13 := I11.x.on' hT13 (fun k e => by omega) hc13
    have hy13 := I11.y.on' hT13 (fun k e => by omega) hc13
    have hold13 : ∀ k, k < w.heap.size → c13 k = 0 := fun k hk => by rw [hc13 k (by omega), I11.old k hk]
    have hblkt13 := I11.blkt.turns hT13 (fun e => by rw [I11.ct] at e; omega)
    have hblkm13 := I11.blkm.turns hT13 (fun e => by rw [I11.cm] at e; omega)
    have hct13 : c13 bt = 0 := by rw [hc13 bt I11.blkt.lt, I11.ct]
    have hcm13 : c13 bm = 0 := by rw [hc13 bm I11.blkm.lt, I11.cm]
    have hcK13 : c13 gk = 0 := by rw [hc13 gk hK12.lt, hcK]
    have hdr13 : Below w13.heap.size w13 w13.drew := (Below.refl _ _).drew
    have f0' : ∀ w', (Blk w' gk 47 (kaF (l[i], p, q)).toArray ∧ Blk w' bm 56 #[.pointer (some ⟨m0', 0, none⟩), .pointer (some ⟨m1', 0, none⟩)]) → w'.cell? ⟨gk, 0, none⟩ = some (.int .i64 l[i].1) := fun w' h => h.1.cell 0
    have f1' : ∀ w', (Blk w' gk 47 (kaF (l[i], p, q)).toArray ∧ Blk w' bm 56 #[.pointer (some ⟨m0', 0, none⟩), .pointer (some ⟨m1', 0, none⟩)]) → w'.cell? ⟨gk, 1, none⟩ = some (.int .i64 l[i].cl) := fun w' h => h.1.cell 1
    have f2' : ∀ w', (Blk w' gk 47 (kaF (l[i], p, q)).toArray ∧ Blk w' bm 56 #[.pointer (some ⟨m0', 0, none⟩), .pointer (some ⟨m1', 0, none⟩)]) → w'.cell? ⟨gk, 2, none⟩ = some (.int .i64 l[i].no) := fun w' h => h.1.cell 2
    have f3' : ∀ w', (Blk w' gk 47 (kaF (l[i], p, q)).toArray ∧ Blk w' bm 56 #[.pointer (some ⟨m0', 0, none⟩), .pointer (some ⟨m1', 0, none⟩)]) → ∀ j u, (l[i].rep.cells p q).toList[j]? = some u → w'.cell? ((⟨gk, 3, none⟩ : Addr).add j) = some u := fun w' h j u hu => by
      rw [add0, h.1.cell]
      have : (kaF (l[i], p, q))[3 + j]? = some u := by rw [← hu, show 3 + j = j + 3 from by omega]; rfl
      simpa using this
    have mp : ∀ w', (Blk w' gk 47 (kaF (l[i], p, q)).toArray ∧ Blk w' bm 56 #[.pointer (some ⟨m0', 0, none⟩), .pointer (some ⟨m1', 0, none⟩)]) → w'.cell? ⟨bm, (if bs then 1 else 0 : Nat), none⟩ = some (.pointer (some ⟨if bs then m1' else m0', 0, none⟩)) := fun w' h => by
      have := h.2.cell (if bs then 1 else 0)
      rw [this]
      cases bs <;> rfl
    refine draw (fun w' => Blk w' gk 47 (kaF (l[i], p, q)).toArray ∧ Blk w' bm 56 #[.pointer (some ⟨m0', 0, none⟩), .pointer (some ⟨m1', 0, none⟩)]) ⟨hK13.below' hdr13, hblkm13.below' hdr13⟩ ?_
    (repeat with_reducible first | refine yfd q0 (by decide) ?_ | refine yl1 one3 f0' ?_ | refine ynck ?_ | refine nck ?_ | refine cdT ?_ | refine cdF ?_ | refine gdY ?_ | refine gdFT ?_ | refine gdTF ?_ | refine gdU ?_ | refine gaY ?_ | refine gaFT ?_ | refine gaTF ?_ | refine pickT ?_ | refine pickF ?_ | refine yi_lss_t (by omega) ?_ | refine yi_lss_f (by omega) ?_ | refine yi_add64 (by omega) ?_ | refine yi_sub64 (by omega) ?_ | refine yi_eql_t (by omega) ?_ | refine yi_eql_f (by omega) ?_ | refine yi_neq_t (by omega) ?_ | refine yi_neq_f (by omega) ?_ | refine yi_gtr_t (by omega) ?_ | refine yi_gtr_f (by omega) ?_ | refine yi_leq_t (by omega) ?_ | refine yi_leq_f (by omega) ?_ | refine yi_geq_t (by omega) ?_ | refine yi_geq_f (by omega) ?_ | refine yi_xt0 ?_ | refine yi_xt1 ?_ | refine yi_xt2 ?_ | refine yi_xt3 ?_ | refine yi_T ?_ | refine yi_F ?_ | refine yi_not ?_ | refine yi_and ?_ | refine yi_or ?_ | refine yi_xor ?_ | refine yi_shr (by omega) (by decide) ?_ | refine yi_shl (by omega) (by decide) ?_ | refine yi_quo64 (by omega) ?_ | refine yi_rem64 (by omega) ?_ | refine yi_mul64 (by omega) ?_ | refine yi_neg ?_ | refine yi_un_xor32 ?_ | refine yi_add ?_ | refine yi_sub ?_ | refine yi_mul ?_ | refine yi_quo (by decide) ?_ | refine yi_rem (by decide) ?_)
    rw [hbs]
    refine yixB und56 sz41 _ (by cases bs <;> decide) ?_
    refine yl1 one41 mp ?_
    (repeat with_reducible first | refine yfd q1 (by decide) ?_ | refine yl1 one3 f1' ?_ | refine yfd q2 (by decide) ?_ | refine yl1 one3 f2' ?_ | refine yfd q3 (by decide) ?_ | refine ynck ?_ | refine nck ?_ | refine cdT ?_ | refine cdF ?_ | refine gdY ?_ | refine gdFT ?_ | refine gdTF ?_ | refine gdU ?_ | refine gaY ?_ | refine gaFT ?_ | refine gaTF ?_ | refine pickT ?_ | refine pickF ?_ | refine yi_lss_t (by omega) ?_ | refine yi_lss_f (by omega) ?_ | refine yi_add64 (by omega) ?_ | refine yi_sub64 (by omega) ?_ | refine yi_eql_t (by omega) ?_ | refine yi_eql_f (by omega) ?_ | refine yi_neq_t (by omega) ?_ | refine yi_neq_f (by omega) ?_ | refine yi_gtr_t (by omega) ?_ | refine yi_gtr_f (by omega) ?_ | refine yi_leq_t (by omega) ?_ | refine yi_leq_f (by omega) ?_ | refine yi_geq_t (by omega) ?_ | refine yi_geq_f (by omega) ?_ | refine yi_xt0 ?_ | refine yi_xt1 ?_ | refine yi_xt2 ?_ | refine yi_xt3 ?_ | refine yi_T ?_ | refine yi_F ?_ | refine yi_not ?_ | refine yi_and ?_ | refine yi_or ?_ | refine yi_xor ?_ | refine yi_shr (by omega) (by decide) ?_ | refine yi_shl (by omega) (by decide) ?_ | refine yi_quo64 (by omega) ?_ | refine yi_rem64 (by omega) ?_ | refine yi_mul64 (by omega) ?_ | refine yi_neg ?_ | refine yi_un_xor32 ?_ | refine yi_add ?_ | refine yi_sub ?_ | refine yi_mul ?_ | refine yi_quo (by decide) ?_ | refine yi_rem (by decide) ?_)
    refine yldR agg27 f3' sz ?_
    rw [Array.toArray_toList]
    have hbel13d := below_then hbel13 hdr13
    refine (keepM bs l[i].cl l[i].no l[i].rep p q l[i].vs l[i].rows (hx13.below hdr13) (hy13.below hdr13) (keeps_Vals _ _ _ _ hbel13d hp) (keeps_RowsR _ _ _ _ hbel13d hq) (by have := hla'.1; omega) (by omega)).mono ?_
    rintro _ w14 ⟨c14, hc14, hx14, hy14, hT14⟩
    have hs13 := hbel13d.size
    have hb14 : Below w.heap.size w13.drew w14 := hT14.below hs13 fun k hk e => by rw [hold13 k hk] at e; omega
    (repeat with_reducible first | refine nck ?_ | refine cdT ?_ | refine cdF ?_ | refine gdY ?_ | refine gdFT ?_ | refine gdTF ?_ | refine gdU ?_ | refine gaY ?_ | refine gaFT ?_ | refine gaTF ?_ | refine pickT ?_ | refine pickF ?_ | refine bi_lss_t (by omega) ?_ | refine bi_lss_f (by omega) ?_ | refine bi_add64 (by omega) ?_ | refine bi_sub64 (by omega) ?_ | refine bi_eql_t (by omega) ?_ | refine bi_eql_f (by omega) ?_ | refine bi_neq_t (by omega) ?_ | refine bi_neq_f (by omega) ?_ | refine bi_gtr_t (by omega) ?_ | refine bi_gtr_f (by omega) ?_ | refine bi_leq_t (by omega) ?_ | refine bi_leq_f (by omega) ?_ | refine bi_geq_t (by omega) ?_ | refine bi_geq_f (by omega) ?_ | refine bi_xt0 ?_ | refine bi_xt1 ?_ | refine bi_xt2 ?_ | refine bi_xt3 ?_ | refine bi_T ?_ | refine bi_F ?_ | refine bi_not ?_ | refine bi_and ?_ | refine bi_or ?_ | refine bi_xor ?_ | refine bi_shr (by omega) (by decide) ?_ | refine bi_shl (by omega) (by decide) ?_ | refine bi_quo64 (by omega) ?_ | refine bi_rem64 (by omega) ?_ | refine bi_mul64 (by omega) ?_ | refine bi_neg ?_ | refine bi_un_xor32 ?_ | refine bi_add ?_ | refine bi_sub ?_ | refine bi_mul ?_ | refine bi_quo (by decide) ?_ | refine bi_rem (by decide) ?_)
    refine hJ _ _ ⟨i + 1, c14, _, _, by omega, by simp, (hA13.below hdr13).on hT14 (fun k e => by omega) hc14, (hB13.below hdr13).on hT14 (fun k e => by omega) hc14, hx14, hy14, ?_, ?_, fun k hk => by rw [hc14 k (by omega), hold13 k hk], ?_, ?_, (hblkt13.below' hdr13).turns hT14 (fun e => by rw [hct13] at e; omega), (hblkm13.below' hdr13).turns hT14 (fun e => by rw [hcm13] at e; omega), hbel13d.trans hb14⟩ (by simp [intOf]; omega)
    · cases bs
      · exact I.inV.keep _ _ _ _ _
      · exact I.inV
    · cases bs
      · exact I.inU
      · exact I.inU.keep _ _ _ _ _
    · rw [hc14 bt (hblkt13.below' hdr13).lt, hct13]
    · rw [hc14 bm (hblkm13.below' hdr13).lt, hcm13]
  · have hil : i = l.length := by omega
    have hdr : Below w10.heap.size w10 w10.drew := (Below.refl _ _).drew
    have I1 := I.below hdr
    generalize col c w10.heap.size 0 = c11 at *
    have t0' : ∀ w', (Blk w' bt 54 #[.pointer (some ⟨ga, 0, none⟩), .pointer (some ⟨gb, 0, none⟩)] ∧ Blk w' bm 56 #[.pointer (some ⟨m0', 0, none⟩), .pointer (some ⟨m1', 0, none⟩)]) → w'.cell? ⟨bt, 0, none⟩ = some (.pointer (some ⟨ga, 0, none⟩)) := fun w' h => h.1.cell 0
    have t1' : ∀ w', (Blk w' bt 54 #[.pointer (some ⟨ga, 0, none⟩), .pointer (some ⟨gb, 0, none⟩)] ∧ Blk w' bm 56 #[.pointer (some ⟨m0', 0, none⟩), .pointer (some ⟨m1', 0, none⟩)]) → w'.cell? ⟨bt, 1, none⟩ = some (.pointer (some ⟨gb, 0, none⟩)) := fun w' h => h.1.cell 1
    have u0' : ∀ w', (Blk w' bt 54 #[.pointer (some ⟨ga, 0, none⟩), .pointer (some ⟨gb, 0, none⟩)] ∧ Blk w' bm 56 #[.pointer (some ⟨m0', 0, none⟩), .pointer (some ⟨m1', 0, none⟩)]) → w'.cell? ⟨bm, 0, none⟩ = some (.pointer (some ⟨m0', 0, none⟩)) := fun w' h => h.2.cell 0
    have u1' : ∀ w', (Blk w' bt 54 #[.pointer (some ⟨ga, 0, none⟩), .pointer (some ⟨gb, 0, none⟩)] ∧ Blk w' bm 56 #[.pointer (some ⟨m0', 0, none⟩), .pointer (some ⟨m1', 0, none⟩)]) → w'.cell? ⟨bm, 1, none⟩ = some (.pointer (some ⟨m1', 0, none⟩)) := fun w' h => h.2.cell 1
    (repeat with_reducible first | refine nck ?_ | refine cdT ?_ | refine cdF ?_ | refine gdY ?_ | refine gdFT ?_ | refine gdTF ?_ | refine gdU ?_ | refine gaY ?_ | refine gaFT ?_ | refine gaTF ?_ | refine pickT ?_ | refine pickF ?_ | refine bi_lss_t (by omega) ?_ | refine bi_lss_f (by omega) ?_ | refine bi_add64 (by omega) ?_ | refine bi_sub64 (by omega) ?_ | refine bi_eql_t (by omega) ?_ | refine bi_eql_f (by omega) ?_ | refine bi_neq_t (by omega) ?_ | refine bi_neq_f (by omega) ?_ | refine bi_gtr_t (by omega) ?_ | refine bi_gtr_f (by omega) ?_ | refine bi_leq_t (by omega) ?_ | refine bi_leq_f (by omega) ?_ | refine bi_geq_t (by omega) ?_ | refine bi_geq_f (by omega) ?_ | refine bi_xt0 ?_ | refine bi_xt1 ?_ | refine bi_xt2 ?_ | refine bi_xt3 ?_ | refine bi_T ?_ | refine bi_F ?_ | refine bi_not ?_ | refine bi_and ?_ | refine bi_or ?_ | refine bi_xor ?_ | refine bi_shr (by omega) (by decide) ?_ | refine bi_shl (by omega) (by decide) ?_ | refine bi_quo64 (by omega) ?_ | refine bi_rem64 (by omega) ?_ | refine bi_mul64 (by omega) ?_ | refine bi_neg ?_ | refine bi_un_xor32 ?_ | refine bi_add ?_ | refine bi_sub ?_ | refine bi_mul ?_ | refine bi_quo (by decide) ?_ | refine bi_rem (by decide) ?_)
    refine draw (fun w' => Blk w' bt 54 #[.pointer (some ⟨ga, 0, none⟩), .pointer (some ⟨gb, 0, none⟩)] ∧ Blk w' bm 56 #[.pointer (some ⟨m0', 0, none⟩), .pointer (some ⟨m1', 0, none⟩)]) ⟨I1.blkt, I1.blkm⟩ ?_
    refine yixB und54 sz30 0 (by decide) ?_
    refine yl1 one30 t0' ?_
    refine yixB und54 sz30 1 (by decide) ?_
    refine yl1 one30 t1' ?_
    refine yixB und56 sz41 0 (by decide) ?_
    refine yl1 one41 u0' ?_
    refine yixB und56 sz41 1 (by decide) ?_
    refine yl1 one41 u1' ?_
    refine act ?_
    refine (Join_V (ho := 5) (I1.a.clr (n := 4) (by decide)) (I1.b.clr (n := 4) (by decide)) (by decide) (by decide) (by decide) (by omega) (fun k _ => clr_free (by decide) (by decide) c11 k)).mono ?_
    rintro _ w12 ⟨g5, c12, rfl, hc12, h5, hb12⟩
    have hA12 := ((I1.a.clr (n := 4) (by decide)).re hc12).below hb12
    have hB12 := ((I1.b.clr (n := 4) (by decide)).re hc12).below hb12
    have hX12 := ((I1.x.clr (n := 4) (by decide)).re hc12).below hb12
    have hY12 := ((I1.y.clr (n := 4) (by decide)).re hc12).below hb12
    have hs10 := I1.bel.size
    have hold12 : ∀ k, k < w.heap.size → c12 k = 0 := fun k hk => by rw [hc12 k (by omega), clr_zero (I1.old k hk)]
    have hct12 : c12 bt = 0 := by rw [hc12 bt I1.blkt.lt, clr_zero I1.ct]
    have hcm12 : c12 bm = 0 := by rw [hc12 bm I1.blkm.lt, clr_zero I1.cm]
    have hBt12 := I1.blkt.below' hb12
    have hBm12 := I1.blkm.below' hb12
    have hbl12 := below_then I1.bel hb12
    refine ⟨_, ⟨hBt12, hBm12⟩, fun _ h => h, ?_⟩
    refine act ?_
    refine (refJoin_V (ho := 6) (hX12.clr (n := 5) (by decide)) (hY12.clr (n := 5) (by decide)) I.inU (by decide) (by decide) (by omega) (fun k _ => clr_free (by decide) (by decide) c12 k)).mono ?_
    rintro _ w13 ⟨g6, c13, rfl, hc13, h6, hb13⟩
    have h5' := ((h5.clr (n := 5) (by decide)).re hc13).below hb13
    have hA13 := ((hA12.clr (n := 5) (by decide)).re hc13).below hb13
    have hB13 := ((hB12.clr (n := 5) (by decide)).re hc13).below hb13
    have hX13 := ((hX12.clr (n := 5) (by decide)).re hc13).below hb13
    have hY13 := ((hY12.clr (n := 5) (by decide)).re hc13).below hb13
    have hs12 := hbl12.size
    have hold13 : ∀ k, k < w.heap.size → c13 k = 0 := fun k hk => by rw [hc13 k (by omega), clr_zero (hold12 k hk)]
    have hct13 : c13 bt = 0 := by rw [hc13 bt hBt12.lt, clr_zero hct12]
    have hcm13 : c13 bm = 0 := by rw [hc13 bm hBm12.lt, clr_zero hcm12]
    have hBt13 := hBt12.below' hb13
    have hBm13 := hBm12.below' hb13
    have hbl13 := below_then hbl12 hb13
    refine ⟨_, ⟨hBt13, hBm13⟩, fun _ h => h, ?_⟩
    refine ixB (i := 0) und54 sz30 (by decide) ?_
    refine ld one30 (t0' _ ⟨hBt13, hBm13⟩) ?_
    refine (Copy_V (ho := 7) (hz := 8) (hA13.clr (n := 6) (by decide)) (by decide) (by decide) (by decide) (by decide) (by decide) (by omega) (fun k _ => clr_free (by decide) (by decide) c13 k)).mono ?_
    rintro _ w14 ⟨g7, c14, rfl, hc14, h7, hb14⟩
    have e7 : (fun id => joinV (V id) (0, [])) = V := by
      funext id
      exact joinV_zero (I.a.good id)
    rw [e7] at h7
    have h5'' := ((h5'.clr (n := 6) (by decide)).re hc14).below hb14
    have h6'' := ((h6.clr (n := 6) (by decide)).re hc14).below hb14
    have hA14 := ((hA13.clr (n := 6) (by decide)).re hc14).below hb14
    have hB14 := ((hB13.clr (n := 6) (by decide)).re hc14).below hb14
    have hX14 := ((hX13.clr (n := 6) (by decide)).re hc14).below hb14
    have hY14 := ((hY13.clr (n := 6) (by decide)).re hc14).below hb14
    have hs13 := hbl13.size
    have hold14 : ∀ k, k < w.heap.size → c14 k = 0 := fun k hk => by rw [hc14 k (by omega), clr_zero (hold13 k hk)]
    have hct14 : c14 bt = 0 := by rw [hc14 bt hBt13.lt, clr_zero hct13]
    have hcm14 : c14 bm = 0 := by rw [hc14 bm hBm13.lt, clr_zero hcm13]
    have hBt14 := hBt13.below' hb14
    have hBm14 := hBm13.below' hb14
    have hbl14 := below_then hbl13 hb14
    refine (same_spec _ l h5'' h6'' (by omega) (keeps_Acts _ _ _ _ hbl14 hv) (by omega)).mono ?_
    rintro _ w15 ⟨rfl, hb15⟩
    have hBm15 := hBm14.below' hb15
    have hBt15 := hBt14.below' hb15
    (repeat with_reducible first | refine nck ?_ | refine cdT ?_ | refine cdF ?_ | refine gdY ?_ | refine gdFT ?_ | refine gdTF ?_ | refine gdU ?_ | refine gaY ?_ | refine gaFT ?_ | refine gaTF ?_ | refine pickT ?_ | refine pickF ?_ | refine bi_lss_t (by omega) ?_ | refine bi_lss_f (by omega) ?_ | refine bi_add64 (by omega) ?_ | refine bi_sub64 (by omega) ?_ | refine bi_eql_t (by omega) ?_ | refine bi_eql_f (by omega) ?_ | refine bi_neq_t (by omega) ?_ | refine bi_neq_f (by omega) ?_ | refine bi_gtr_t (by omega) ?_ | refine bi_gtr_f (by omega) ?_ | refine bi_leq_t (by omega) ?_ | refine bi_leq_f (by omega) ?_ | refine bi_geq_t (by omega) ?_ | refine bi_geq_f (by omega) ?_ | refine bi_xt0 ?_ | refine bi_xt1 ?_ | refine bi_xt2 ?_ | refine bi_xt3 ?_ | refine bi_T ?_ | refine bi_F ?_ | refine bi_not ?_ | refine bi_and ?_ | refine bi_or ?_ | refine bi_xor ?_ | refine bi_shr (by omega) (by decide) ?_ | refine bi_shl (by omega) (by decide) ?_ | refine bi_quo64 (by omega) ?_ | refine bi_rem64 (by omega) ?_ | refine bi_mul64 (by omega) ?_ | refine bi_neg ?_ | refine bi_un_xor32 ?_ | refine bi_add ?_ | refine bi_sub ?_ | refine bi_mul ?_ | refine bi_quo (by decide) ?_ | refine bi_rem (by decide) ?_)
    refine ixB (i := 0) und56 sz41 (by decide) ?_
    (repeat with_reducible first | refine nck ?_ | refine cdT ?_ | refine cdF ?_ | refine gdY ?_ | refine gdFT ?_ | refine gdTF ?_ | refine gdU ?_ | refine gaY ?_ | refine gaFT ?_ | refine gaTF ?_ | refine pickT ?_ | refine pickF ?_ | refine bi_lss_t (by omega) ?_ | refine bi_lss_f (by omega) ?_ | refine bi_add64 (by omega) ?_ | refine bi_sub64 (by omega) ?_ | refine bi_eql_t (by omega) ?_ | refine bi_eql_f (by omega) ?_ | refine bi_neq_t (by omega) ?_ | refine bi_neq_f (by omega) ?_ | refine bi_gtr_t (by omega) ?_ | refine bi_gtr_f (by omega) ?_ | refine bi_leq_t (by omega) ?_ | refine bi_leq_f (by omega) ?_ | refine bi_geq_t (by omega) ?_ | refine bi_geq_f (by omega) ?_ | refine bi_xt0 ?_ | refine bi_xt1 ?_ | refine bi_xt2 ?_ | refine bi_xt3 ?_ | refine bi_T ?_ | refine bi_F ?_ | refine bi_not ?_ | refine bi_and ?_ | refine bi_or ?_ | refine bi_xor ?_ | refine bi_shr (by omega) (by decide) ?_ | refine bi_shl (by omega) (by decide) ?_ | refine bi_quo64 (by omega) ?_ | refine bi_rem64 (by omega) ?_ | refine bi_mul64 (by omega) ?_ | refine bi_neg ?_ | refine bi_un_xor32 ?_ | refine bi_add ?_ | refine bi_sub ?_ | refine bi_mul ?_ | refine bi_quo (by decide) ?_ | refine bi_rem (by decide) ?_)
    refine ld one41 (u0' _ ⟨hBt15, hBm15⟩) ?_
    (repeat with_reducible first | refine nck ?_ | refine cdT ?_ | refine cdF ?_ | refine gdY ?_ | refine gdFT ?_ | refine gdTF ?_ | refine gdU ?_ | refine gaY ?_ | refine gaFT ?_ | refine gaTF ?_ | refine pickT ?_ | refine pickF ?_ | refine bi_lss_t (by omega) ?_ | refine bi_lss_f (by omega) ?_ | refine bi_add64 (by omega) ?_ | refine bi_sub64 (by omega) ?_ | refine bi_eql_t (by omega) ?_ | refine bi_eql_f (by omega) ?_ | refine bi_neq_t (by omega) ?_ | refine bi_neq_f (by omega) ?_ | refine bi_gtr_t (by omega) ?_ | refine bi_gtr_f (by omega) ?_ | refine bi_leq_t (by omega) ?_ | refine bi_leq_f (by omega) ?_ | refine bi_geq_t (by omega) ?_ | refine bi_geq_f (by omega) ?_ | refine bi_xt0 ?_ | refine bi_xt1 ?_ | refine bi_xt2 ?_ | refine bi_xt3 ?_ | refine bi_T ?_ | refine bi_F ?_ | refine bi_not ?_ | refine bi_and ?_ | refine bi_or ?_ | refine bi_xor ?_ | refine bi_shr (by omega) (by decide) ?_ | refine bi_shl (by omega) (by decide) ?_ | refine bi_quo64 (by omega) ?_ | refine bi_rem64 (by omega) ?_ | refine bi_mul64 (by omega) ?_ | refine bi_neg ?_ | refine bi_un_xor32 ?_ | refine bi_add ?_ | refine bi_sub ?_ | refine bi_mul ?_ | refine bi_quo (by decide) ?_ | refine bi_rem (by decide) ?_)
    have hbl15 := below_then hbl14 hb15
    refine (same_spec _ l (h7.below hb15) (hX14.below hb15) (by omega) (keeps_Acts _ _ _ _ hbl15 hv) (by omega)).mono ?_
    rintro _ w16 ⟨rfl, hb16⟩
    have hb1416 := below_then hb15 hb16
    have hbl16 := below_then hbl15 hb16
    (repeat with_reducible first | refine nck ?_ | refine cdT ?_ | refine cdF ?_ | refine gdY ?_ | refine gdFT ?_ | refine gdTF ?_ | refine gdU ?_ | refine gaY ?_ | refine gaFT ?_ | refine gaTF ?_ | refine pickT ?_ | refine pickF ?_ | refine bi_lss_t (by omega) ?_ | refine bi_lss_f (by omega) ?_ | refine bi_add64 (by omega) ?_ | refine bi_sub64 (by omega) ?_ | refine bi_eql_t (by omega) ?_ | refine bi_eql_f (by omega) ?_ | refine bi_neq_t (by omega) ?_ | refine bi_neq_f (by omega) ?_ | refine bi_gtr_t (by omega) ?_ | refine bi_gtr_f (by omega) ?_ | refine bi_leq_t (by omega) ?_ | refine bi_leq_f (by omega) ?_ | refine bi_geq_t (by omega) ?_ | refine bi_geq_f (by omega) ?_ | refine bi_xt0 ?_ | refine bi_xt1 ?_ | refine bi_xt2 ?_ | refine bi_xt3 ?_ | refine bi_T ?_ | refine bi_F ?_ | refine bi_not ?_ | refine bi_and ?_ | refine bi_or ?_ | refine bi_xor ?_ | refine bi_shr (by omega) (by decide) ?_ | refine bi_shl (by omega) (by decide) ?_ | refine bi_quo64 (by omega) ?_ | refine bi_rem64 (by omega) ?_ | refine bi_mul64 (by omega) ?_ | refine bi_neg ?_ | refine bi_un_xor32 ?_ | refine bi_add ?_ | refine bi_sub ?_ | refine bi_mul ?_ | refine bi_quo (by decide) ?_ | refine bi_rem (by decide) ?_)
    refine LoopP.inv1 (fun iv w' => ∃ (k : Nat) (c : Nat → Nat) (Vx Vc : Int → VC), k ≤ l.length ∧ iv = .int .i64 k ∧ TabV 5 c w' g5 Vx (i + i + k) ∧ TabV 7 c w' g7 Vc (i + k) ∧ TabV 1 c w' ga V i ∧ TabV 2 c w' gb U i ∧ RefV 3 c w' m0' V i ∧ RefV 4 c w' m1' U i ∧ (∀ j, j < w.heap.size → c j = 0) ∧ c bt = 0 ∧ c bm = 0 ∧
        Blk w' bt 54 #[.pointer (some ⟨ga, 0, none⟩), .pointer (some ⟨gb, 0, none⟩)] ∧ Blk w' bm 56 #[.pointer (some ⟨m0', 0, none⟩), .pointer (some ⟨m1', 0, none⟩)] ∧ Below w.heap.size w w') (fun iv _ => l.length - (intOf iv).toNat)
      ⟨0, c14, _, V, by omega, rfl, h5''.below hb1416, h7.below hb1416, hA14.below hb1416, hB14.below hb1416, hX14.below hb1416, hY14.below hb1416, hold14, hct14, hcm14, hBt14.below' hb1416, hBm14.below' hb1416, hbl16⟩ ?_
    rintro _ w17 ⟨k, c17, Vx, Vc, hk, rfl, h5k, h7k, hAk, hBk, hXk, hYk, hold, hct, hcm, hBt, hBm, hbl⟩ J1 hJ1
    dsimp only [List.headD_cons, List.tail_cons]
    refine ln und39 ?_
    refine bi_lss_c (fun h2 => ?_) (fun h2 => ?_)
    · have hk' : k < l.length := by omega
      obtain ⟨a, p, q, rfl, hcell, hp, hq⟩ := act_whole hv k hk'
      have d1 : ∀ w', Below w.heap.size w w' → w'.cell? ((a.add (k * 8)).add 1) = some (.int .i64 l[k].cl) := fun w' h => by rw [h.cell (World.block_lt_of_cell? _ _ (hcell 1 _ rfl)), hcell 1 _ rfl]
      have d1w := d1 _ hbl
      (repeat with_reducible first | refine ixN und39 sz47 k hk' ?_ | refine fdA q1 (by decide) ?_ | refine ld one3 d1w ?_ | refine nck ?_ | refine cdT ?_ | refine cdF ?_ | refine gdY ?_ | refine gdFT ?_ | refine gdTF ?_ | refine gdU ?_ | refine gaY ?_ | refine gaFT ?_ | refine gaTF ?_ | refine pickT ?_ | refine pickF ?_ | refine bi_lss_t (by omega) ?_ | refine bi_lss_f (by omega) ?_ | refine bi_add64 (by omega) ?_ | refine bi_sub64 (by omega) ?_ | refine bi_eql_t (by omega) ?_ | refine bi_eql_f (by omega) ?_ | refine bi_neq_t (by omega) ?_ | refine bi_neq_f (by omega) ?_ | refine bi_gtr_t (by omega) ?_ | refine bi_gtr_f (by omega) ?_ | refine bi_leq_t (by omega) ?_ | refine bi_leq_f (by omega) ?_ | refine bi_geq_t (by omega) ?_ | refine bi_geq_f (by omega) ?_ | refine bi_xt0 ?_ | refine bi_xt1 ?_ | refine bi_xt2 ?_ | refine bi_xt3 ?_ | refine bi_T ?_ | refine bi_F ?_ | refine bi_not ?_ | refine bi_and ?_ | refine bi_or ?_ | refine bi_xor ?_ | refine bi_shr (by omega) (by decide) ?_ | refine bi_shl (by omega) (by decide) ?_ | refine bi_quo64 (by omega) ?_ | refine bi_rem64 (by omega) ?_ | refine bi_mul64 (by omega) ?_ | refine bi_neg ?_ | refine bi_un_xor32 ?_ | refine bi_add ?_ | refine bi_sub ?_ | refine bi_mul ?_ | refine bi_quo (by decide) ?_ | refine bi_rem (by decide) ?_)
      refine bd (cells := zeroRep.cells (.slice none 0 0) (.slice none 0 0)) (by kernel_rfl) ?_
      refine (Keep_V l[k].cl _ zeroRep (.slice none 0 0) (.slice none 0 0) [] [] h5k (Vals.nil _) (.inl rfl) (RowsR.nil _ 0 (by decide)) (by simp) (by omega)).mono ?_
      rintro _ w18 ⟨rfl, c18, hc18, h5l, hT18⟩
      have hsl := hbl.size
      have hbl18 : Below w.heap.size w w18 := hbl.trans (hT18.below hsl fun j hj => Dh0 (by decide) (hold j hj))
      have d1w' := d1 _ hbl18
      (repeat with_reducible first | refine ixN und39 sz47 k hk' ?_ | refine fdA q1 (by decide) ?_ | refine ld one3 d1w' ?_ | refine nck ?_ | refine cdT ?_ | refine cdF ?_ | refine gdY ?_ | refine gdFT ?_ | refine gdTF ?_ | refine gdU ?_ | refine gaY ?_ | refine gaFT ?_ | refine gaTF ?_ | refine pickT ?_ | refine pickF ?_ | refine bi_lss_t (by omega) ?_ | refine bi_lss_f (by omega) ?_ | refine bi_add64 (by omega) ?_ | refine bi_sub64 (by omega) ?_ | refine bi_eql_t (by omega) ?_ | refine bi_eql_f (by omega) ?_ | refine bi_neq_t (by omega) ?_ | refine bi_neq_f (by omega) ?_ | refine bi_gtr_t (by omega) ?_ | refine bi_gtr_f (by omega) ?_ | refine bi_leq_t (by omega) ?_ | refine bi_leq_f (by omega) ?_ | refine bi_geq_t (by omega) ?_ | refine bi_geq_f (by omega) ?_ | refine bi_xt0 ?_ | refine bi_xt1 ?_ | refine bi_xt2 ?_ | refine bi_xt3 ?_ | refine bi_T ?_ | refine bi_F ?_ | refine bi_not ?_ | refine bi_and ?_ | refine bi_or ?_ | refine bi_xor ?_ | refine bi_shr (by omega) (by decide) ?_ | refine bi_shl (by omega) (by decide) ?_ | refine bi_quo64 (by omega) ?_ | refine bi_rem64 (by omega) ?_ | refine bi_mul64 (by omega) ?_ | refine bi_neg ?_ | refine bi_un_xor32 ?_ | refine bi_add ?_ | refine bi_sub ?_ | refine bi_mul ?_ | refine bi_quo (by decide) ?_ | refine bi_rem (by decide) ?_)
      refine bd (cells := zeroRep.cells (.slice none 0 0) (.slice none 0 0)) (by kernel_rfl) ?_
      have h7l := h7k.other hT18 (by decide) hc18
      have hAl := hAk.other hT18 (by decide) hc18
      have hBl := hBk.other hT18 (by decide) hc18
      have hXl := hXk.on hT18 (by decide) (by decide) hc18
      have hYl := hYk.on hT18 (by decide) (by decide) hc18
      have hold18 : ∀ j, j < w.heap.size → c18 j = 0 := fun j hj => by rw [hc18 j (by omega), hold j hj]
      have hct18 : c18 bt = 0 := by rw [hc18 bt hBt.lt, hct]
      have hcm18 : c18 bm = 0 := by rw [hc18 bm hBm.lt, hcm]
      have hBt18 := hBt.turns hT18 (Dh0 (by decide) hct)
      have hBm18 := hBm.turns hT18 (Dh0 (by decide) hcm)
      refine (Keep_V l[k].cl _ zeroRep (.slice none 0 0) (.slice none 0 0) [] [] h7l (Vals.nil _) (.inl rfl) (RowsR.nil _ 0 (by decide)) (by simp) (by omega)).mono ?_
      rintro _ w19 ⟨rfl, c19, hc19, h7m, hT19⟩
      have hsl18 := hbl18.size
      have hbl19 : Below w.heap.size w w19 := hbl18.trans (hT19.below hsl18 fun j hj => Dh0 (by decide) (hold18 j hj))
      (repeat with_reducible first | refine nck ?_ | refine cdT ?_ | refine cdF ?_ | refine gdY ?_ | refine gdFT ?_ | refine gdTF ?_ | refine gdU ?_ | refine gaY ?_ | refine gaFT ?_ | refine gaTF ?_ | refine pickT ?_ | refine pickF ?_ | refine bi_lss_t (by omega) ?_ | refine bi_lss_f (by omega) ?_ | refine bi_add64 (by omega) ?_ | refine bi_sub64 (by omega) ?_ | refine bi_eql_t (by omega) ?_ | refine bi_eql_f (by omega) ?_ | refine bi_neq_t (by omega) ?_ | refine bi_neq_f (by omega) ?_ | refine bi_gtr_t (by omega) ?_ | refine bi_gtr_f (by omega) ?_ | refine bi_leq_t (by omega) ?_ | refine bi_leq_f (by omega) ?_ | refine bi_geq_t (by omega) ?_ | refine bi_geq_f (by omega) ?_ | refine bi_xt0 ?_ | refine bi_xt1 ?_ | refine bi_xt2 ?_ | refine bi_xt3 ?_ | refine bi_T ?_ | refine bi_F ?_ | refine bi_not ?_ | refine bi_and ?_ | refine bi_or ?_ | refine bi_xor ?_ | refine bi_shr (by omega) (by decide) ?_ | refine bi_shl (by omega) (by decide) ?_ | refine bi_quo64 (by omega) ?_ | refine bi_rem64 (by omega) ?_ | refine bi_mul64 (by omega) ?_ | refine bi_neg ?_ | refine bi_un_xor32 ?_ | refine bi_add ?_ | refine bi_sub ?_ | refine bi_mul ?_ | refine bi_quo (by decide) ?_ | refine bi_rem (by decide) ?_)
      refine hJ1 _ _ ⟨k + 1, c19, _, _, by omega, by simp, (h5l.other hT19 (by decide) hc19).mono (by omega), h7m.mono (by omega), hAl.other hT19 (by decide) hc19, hBl.other hT19 (by decide) hc19, hXl.on hT19 (by decide) (by decide) hc19, hYl.on hT19 (by decide) (by decide) hc19, fun j hj => by rw [hc19 j (by omega), hold18 j hj], by rw [hc19 bt hBt18.lt, hct18], by rw [hc19 bm hBm18.lt, hcm18], hBt18.turns hT19 (Dh0 (by decide) hct18), hBm18.turns hT19 (Dh0 (by decide) hcm18), hbl19⟩ (by simp [intOf]; omega)
    · (repeat with_reducible first | refine nck ?_ | refine cdT ?_ | refine cdF ?_ | refine gdY ?_ | refine gdFT ?_ | refine gdTF ?_ | refine gdU ?_ | refine gaY ?_ | refine gaFT ?_ | refine gaTF ?_ | refine pickT ?_ | refine pickF ?_ | refine bi_lss_t (by omega) ?_ | refine bi_lss_f (by omega) ?_ | refine bi_add64 (by omega) ?_ | refine bi_sub64 (by omega) ?_ | refine bi_eql_t (by omega) ?_ | refine bi_eql_f (by omega) ?_ | refine bi_neq_t (by omega) ?_ | refine bi_neq_f (by omega) ?_ | refine bi_gtr_t (by omega) ?_ | refine bi_gtr_f (by omega) ?_ | refine bi_leq_t (by omega) ?_ | refine bi_leq_f (by omega) ?_ | refine bi_geq_t (by omega) ?_ | refine bi_geq_f (by omega) ?_ | refine bi_xt0 ?_ | refine bi_xt1 ?_ | refine bi_xt2 ?_ | refine bi_xt3 ?_ | refine bi_T ?_ | refine bi_F ?_ | refine bi_not ?_ | refine bi_and ?_ | refine bi_or ?_ | refine bi_xor ?_ | refine bi_shr (by omega) (by decide) ?_ | refine bi_shl (by omega) (by decide) ?_ | refine bi_quo64 (by omega) ?_ | refine bi_rem64 (by omega) ?_ | refine bi_mul64 (by omega) ?_ | refine bi_neg ?_ | refine bi_un_xor32 ?_ | refine bi_add ?_ | refine bi_sub ?_ | refine bi_mul ?_ | refine bi_quo (by decide) ?_ | refine bi_rem (by decide) ?_)
      refine ixB (i := 0) und54 sz30 (by decide) ?_
      refine ld one30 (t0' _ ⟨hBt, hBm⟩) ?_
      refine ixB (i := 0) und56 sz41 (by decide) ?_
      refine ld one41 (u0' _ ⟨hBt, hBm⟩) ?_
      refine (same_spec _ l hAk hXk (by omega) (keeps_Acts _ _ _ _ hbl hv) (by omega)).mono ?_
      rintro _ w18 ⟨rfl, hb18⟩
      have hBt18 := hBt.below' hb18
      have hBm18 := hBm.below' hb18
      have hbl18 := below_then hbl hb18
      (repeat with_reducible first | refine nck ?_ | refine cdT ?_ | refine cdF ?_ | refine gdY ?_ | refine gdFT ?_ | refine gdTF ?_ | refine gdU ?_ | refine gaY ?_ | refine gaFT ?_ | refine gaTF ?_ | refine pickT ?_ | refine pickF ?_ | refine bi_lss_t (by omega) ?_ | refine bi_lss_f (by omega) ?_ | refine bi_add64 (by omega) ?_ | refine bi_sub64 (by omega) ?_ | refine bi_eql_t (by omega) ?_ | refine bi_eql_f (by omega) ?_ | refine bi_neq_t (by omega) ?_ | refine bi_neq_f (by omega) ?_ | refine bi_gtr_t (by omega) ?_ | refine bi_gtr_f (by omega) ?_ | refine bi_leq_t (by omega) ?_ | refine bi_leq_f (by omega) ?_ | refine bi_geq_t (by omega) ?_ | refine bi_geq_f (by omega) ?_ | refine bi_xt0 ?_ | refine bi_xt1 ?_ | refine bi_xt2 ?_ | refine bi_xt3 ?_ | refine bi_T ?_ | refine bi_F ?_ | refine bi_not ?_ | refine bi_and ?_ | refine bi_or ?_ | refine bi_xor ?_ | refine bi_shr (by omega) (by decide) ?_ | refine bi_shl (by omega) (by decide) ?_ | refine bi_quo64 (by omega) ?_ | refine bi_rem64 (by omega) ?_ | refine bi_mul64 (by omega) ?_ | refine bi_neg ?_ | refine bi_un_xor32 ?_ | refine bi_add ?_ | refine bi_sub ?_ | refine bi_mul ?_ | refine bi_quo (by decide) ?_ | refine bi_rem (by decide) ?_)
      refine ixB (i := 1) und54 sz30 (by decide) ?_
      (repeat with_reducible first | refine nck ?_ | refine cdT ?_ | refine cdF ?_ | refine gdY ?_ | refine gdFT ?_ | refine gdTF ?_ | refine gdU ?_ | refine gaY ?_ | refine gaFT ?_ | refine gaTF ?_ | refine pickT ?_ | refine pickF ?_ | refine bi_lss_t (by omega) ?_ | refine bi_lss_f (by omega) ?_ | refine bi_add64 (by omega) ?_ | refine bi_sub64 (by omega) ?_ | refine bi_eql_t (by omega) ?_ | refine bi_eql_f (by omega) ?_ | refine bi_neq_t (by omega) ?_ | refine bi_neq_f (by omega) ?_ | refine bi_gtr_t (by omega) ?_ | refine bi_gtr_f (by omega) ?_ | refine bi_leq_t (by omega) ?_ | refine bi_leq_f (by omega) ?_ | refine bi_geq_t (by omega) ?_ | refine bi_geq_f (by omega) ?_ | refine bi_xt0 ?_ | refine bi_xt1 ?_ | refine bi_xt2 ?_ | refine bi_xt3 ?_ | refine bi_T ?_ | refine bi_F ?_ | refine bi_not ?_ | refine bi_and ?_ | refine bi_or ?_ | refine bi_xor ?_ | refine bi_shr (by omega) (by decide) ?_ | refine bi_shl (by omega) (by decide) ?_ | refine bi_quo64 (by omega) ?_ | refine bi_rem64 (by omega) ?_ | refine bi_mul64 (by omega) ?_ | refine bi_neg ?_ | refine bi_un_xor32 ?_ | refine bi_add ?_ | refine bi_sub ?_ | refine bi_mul ?_ | refine bi_quo (by decide) ?_ | refine bi_rem (by decide) ?_)
      refine ld one30 (t1' _ ⟨hBt18, hBm18⟩) ?_
      (repeat with_reducible first | refine nck ?_ | refine cdT ?_ | refine cdF ?_ | refine gdY ?_ | refine gdFT ?_ | refine gdTF ?_ | refine gdU ?_ | refine gaY ?_ | refine gaFT ?_ | refine gaTF ?_ | refine pickT ?_ | refine pickF ?_ | refine bi_lss_t (by omega) ?_ | refine bi_lss_f (by omega) ?_ | refine bi_add64 (by omega) ?_ | refine bi_sub64 (by omega) ?_ | refine bi_eql_t (by omega) ?_ | refine bi_eql_f (by omega) ?_ | refine bi_neq_t (by omega) ?_ | refine bi_neq_f (by omega) ?_ | refine bi_gtr_t (by omega) ?_ | refine bi_gtr_f (by omega) ?_ | refine bi_leq_t (by omega) ?_ | refine bi_leq_f (by omega) ?_ | refine bi_geq_t (by omega) ?_ | refine bi_geq_f (by omega) ?_ | refine bi_xt0 ?_ | refine bi_xt1 ?_ | refine bi_xt2 ?_ | refine bi_xt3 ?_ | refine bi_T ?_ | refine bi_F ?_ | refine bi_not ?_ | refine bi_and ?_ | refine bi_or ?_ | refine bi_xor ?_ | refine bi_shr (by omega) (by decide) ?_ | refine bi_shl (by omega) (by decide) ?_ | refine bi_quo64 (by omega) ?_ | refine bi_rem64 (by omega) ?_ | refine bi_mul64 (by omega) ?_ | refine bi_neg ?_ | refine bi_un_xor32 ?_ | refine bi_add ?_ | refine bi_sub ?_ | refine bi_mul ?_ | refine bi_quo (by decide) ?_ | refine bi_rem (by decide) ?_)
      refine ixB (i := 1) und56 sz41 (by decide) ?_
      (repeat with_reducible first | refine nck ?_ | refine cdT ?_ | refine cdF ?_ | refine gdY ?_ | refine gdFT ?_ | refine gdTF ?_ | refine gdU ?_ | refine gaY ?_ | refine gaFT ?_ | refine gaTF ?_ | refine pickT ?_ | refine pickF ?_ | refine bi_lss_t (by omega) ?_ | refine bi_lss_f (by omega) ?_ | refine bi_add64 (by omega) ?_ | refine bi_sub64 (by omega) ?_ | refine bi_eql_t (by omega) ?_ | refine bi_eql_f (by omega) ?_ | refine bi_neq_t (by omega) ?_ | refine bi_neq_f (by omega) ?_ | refine bi_gtr_t (by omega) ?_ | refine bi_gtr_f (by omega) ?_ | refine bi_leq_t (by omega) ?_ | refine bi_leq_f (by omega) ?_ | refine bi_geq_t (by omega) ?_ | refine bi_geq_f (by omega) ?_ | refine bi_xt0 ?_ | refine bi_xt1 ?_ | refine bi_xt2 ?_ | refine bi_xt3 ?_ | refine bi_T ?_ | refine bi_F ?_ | refine bi_not ?_ | refine bi_and ?_ | refine bi_or ?_ | refine bi_xor ?_ | refine bi_shr (by omega) (by decide) ?_ | refine bi_shl (by omega) (by decide) ?_ | refine bi_quo64 (by omega) ?_ | refine bi_rem64 (by omega) ?_ | refine bi_mul64 (by omega) ?_ | refine bi_neg ?_ | refine bi_un_xor32 ?_ | refine bi_add ?_ | refine bi_sub ?_ | refine bi_mul ?_ | refine bi_quo (by decide) ?_ | refine bi_rem (by decide) ?_)
      refine ld one41 (u1' _ ⟨hBt18, hBm18⟩) ?_
      (repeat with_reducible first | refine nck ?_ | refine cdT ?_ | refine cdF ?_ | refine gdY ?_ | refine gdFT ?_ | refine gdTF ?_ | refine gdU ?_ | refine gaY ?_ | refine gaFT ?_ | refine gaTF ?_ | refine pickT ?_ | refine pickF ?_ | refine bi_lss_t (by omega) ?_ | refine bi_lss_f (by omega) ?_ | refine bi_add64 (by omega) ?_ | refine bi_sub64 (by omega) ?_ | refine bi_eql_t (by omega) ?_ | refine bi_eql_f (by omega) ?_ | refine bi_neq_t (by omega) ?_ | refine bi_neq_f (by omega) ?_ | refine bi_gtr_t (by omega) ?_ | refine bi_gtr_f (by omega) ?_ | refine bi_leq_t (by omega) ?_ | refine bi_leq_f (by omega) ?_ | refine bi_geq_t (by omega) ?_ | refine bi_geq_f (by omega) ?_ | refine bi_xt0 ?_ | refine bi_xt1 ?_ | refine bi_xt2 ?_ | refine bi_xt3 ?_ | refine bi_T ?_ | refine bi_F ?_ | refine bi_not ?_ | refine bi_and ?_ | refine bi_or ?_ | refine bi_xor ?_ | refine bi_shr (by omega) (by decide) ?_ | refine bi_shl (by omega) (by decide) ?_ | refine bi_quo64 (by omega) ?_ | refine bi_rem64 (by omega) ?_ | refine bi_mul64 (by omega) ?_ | refine bi_neg ?_ | refine bi_un_xor32 ?_ | refine bi_add ?_ | refine bi_sub ?_ | refine bi_mul ?_ | refine bi_quo (by decide) ?_ | refine bi_rem (by decide) ?_)
      refine (same_spec _ l (hBk.below hb18) (hYk.below hb18) (by omega) (keeps_Acts _ _ _ _ hbl18 hv) (by omega)).mono ?_
      rintro _ w19 ⟨rfl, hb19⟩
      (repeat with_reducible first | refine nck ?_ | refine cdT ?_ | refine cdF ?_ | refine gdY ?_ | refine gdFT ?_ | refine gdTF ?_ | refine gdU ?_ | refine gaY ?_ | refine gaFT ?_ | refine gaTF ?_ | refine pickT ?_ | refine pickF ?_ | refine bi_lss_t (by omega) ?_ | refine bi_lss_f (by omega) ?_ | refine bi_add64 (by omega) ?_ | refine bi_sub64 (by omega) ?_ | refine bi_eql_t (by omega) ?_ | refine bi_eql_f (by omega) ?_ | refine bi_neq_t (by omega) ?_ | refine bi_neq_f (by omega) ?_ | refine bi_gtr_t (by omega) ?_ | refine bi_gtr_f (by omega) ?_ | refine bi_leq_t (by omega) ?_ | refine bi_leq_f (by omega) ?_ | refine bi_geq_t (by omega) ?_ | refine bi_geq_f (by omega) ?_ | refine bi_xt0 ?_ | refine bi_xt1 ?_ | refine bi_xt2 ?_ | refine bi_xt3 ?_ | refine bi_T ?_ | refine bi_F ?_ | refine bi_not ?_ | refine bi_and ?_ | refine bi_or ?_ | refine bi_xor ?_ | refine bi_shr (by omega) (by decide) ?_ | refine bi_shl (by omega) (by decide) ?_ | refine bi_quo64 (by omega) ?_ | refine bi_rem64 (by omega) ?_ | refine bi_mul64 (by omega) ?_ | refine bi_neg ?_ | refine bi_un_xor32 ?_ | refine bi_add ?_ | refine bi_sub ?_ | refine bi_mul ?_ | refine bi_quo (by decide) ?_ | refine bi_rem (by decide) ?_)
      exact ⟨rfl, below_then hbl18 hb19⟩
end Go.Proofs.Ytmnaggdhkggjhaa.E
