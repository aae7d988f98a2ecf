/- Join, Copy. -/
import Derived.Test.YtmnaggdhkggjhaaOnP
namespace Go.Proofs.Ytmnaggdhkggjhaa.E
open Go Go.RowKit
set_option linter.unusedSimpArgs false
set_option linter.unusedVariables false

section
variable {hu : Nat} {c c' : Nat → Nat} {x : Nat} {w : World} {m : Rp} {C : Cli} {g bm : Nat} {T : List (Int × Cli)} {V : Int → VC} {N : Nat}
theorem RpAt.re1 (h : RpAt c x w m) (hc : ∀ k, k < w.heap.size → c k = x → c' k = c k) : RpAt c' x w m := ⟨h.own, fun b hb => by rw [hc b (h.own.lt hb) (h.hue b hb)]; exact h.hue b hb, h.ok, h.len⟩
theorem CliAt.re1 (h : CliAt c x w C) (hc : ∀ k, k < w.heap.size → c k = x → c' k = c k) : CliAt c' x w C :=
  ⟨(hc _ h.blk.lt h.hue).trans h.hue, (hc _ h.map.lt h.huem).trans h.huem, h.blk, h.map, fun p hp => (h.el p hp).re1 hc⟩
/-- Colours of its own alone matter to a table. -/
theorem TabV.re1 (h : TabV hu c w g V N) (hc : ∀ k, k < w.heap.size → c k % 1000 = hu → c' k = c k) : TabV hu c' w g V N := by
  obtain ⟨T, ⟨bm, h1⟩, h2, h3⟩ := h.out
  have e := Nat.mod_eq_of_lt h1.hh.2
  refine ⟨h.good, T, ⟨bm, h1.hh, (hc g h1.blk.lt (by rw [h1.hue, e])).trans h1.hue, (hc bm h1.map.lt (by rw [h1.huem, e])).trans h1.huem, h1.blk, h1.map, fun p hp => ⟨(h1.el p hp).1, (h1.el p hp).2.re1 fun k hk hkx => hc k hk (by rw [hkx, hueC_mod h1.hh.2])⟩⟩, h2, h3⟩
end
theorem und80 : Try.prog.underlying 80 = some (.slice 30) := by kernel_rfl
theorem sz30 : (Try.prog.info? 30).map (·.size) = some 1 := by kernel_rfl
theorem one30 : oneB Try.prog 30 = true := by kernel_rfl
theorem Join_V {ha hb ho : Nat} {c : Nat → Nat} {w : World} {ga gb : Nat} {Va Vb : Int → VC} {Na Nb : Nat} (hA : TabV ha c w ga Va Na) (hB : TabV hb c w gb Vb Nb) (hno : 0 < ho ∧ ho < 1000) (hna : ho ≠ ha) (hnb : ho ≠ hb) (hN : Na + Nb < 900000) (hfree : ∀ k, k < w.heap.size → c k % 1000 ≠ ho) :
    CallP Try.prog 21 #[.pointer (some ⟨ga, 0, none⟩), .pointer (some ⟨gb, 0, none⟩)] (fun r w' => ∃ go c', r = .pointer (some ⟨go, 0, none⟩) ∧ (∀ k, k < w.heap.size → c' k = c k) ∧ TabV ho c' w' go (fun id => joinV (Va id) (Vb id)) (Na + Nb) ∧ Below w.heap.size w w') w := by
  obtain ⟨Ta, ⟨bma, hTa⟩, hLa, hSa⟩ := hA.out
  obtain ⟨Tb, ⟨bmb, hTb⟩, hLb, hSb⟩ := hB.out
  have gA := hA.good
  have gB := hB.good
  refine ⟨S21.calls _ _ _ _ ?_⟩
  unfold S21
  refine (New_tab ho hno c w).mono ?_
  rintro _ w1 ⟨go, c1, rfl, hc1, hO1, hb1⟩
  have hs1 := hb1.size
  refine lift (v := .slice (some ⟨w1.heap.size, 0, none⟩) 2 2) (w' := w1.alloc (.cells #[.pointer (some ⟨gb, 0, none⟩), .pointer (some ⟨ga, 0, none⟩)] 30)) (by kernel_rfl) ?_
  have hb2 := (Below.refl w1.heap.size w1).alloc (Nat.le_refl _) (.cells #[.pointer (some ⟨gb, 0, none⟩), .pointer (some ⟨ga, 0, none⟩)] 30)
  have hL2 : Blk (w1.alloc (.cells #[.pointer (some ⟨gb, 0, none⟩), .pointer (some ⟨ga, 0, none⟩)] 30)) w1.heap.size 30 #[.pointer (some ⟨gb, 0, none⟩), .pointer (some ⟨ga, 0, none⟩)] := Blk.new w1 30 _
  generalize hgl : w1.heap.size = gl at *
  generalize w1.alloc (.cells #[.pointer (some ⟨gb, 0, none⟩), .pointer (some ⟨ga, 0, none⟩)] 30) = w2 at *
  have hs2 := hb2.size
  have hb12 : Below w.heap.size w w2 := hb1.trans (hb2.mono hs1)
  refine ln und80 ?_
  -- the colours of what is new: none
  have hX2 : TabX ho (col c1 gl 0) w2 go (fun _ => x0) 0 0 := by
    refine ⟨[], ?_, by simp, fun p hp => by simp at hp, fun _ => rfl⟩
    exact (hO1.re (c' := col c1 gl 0) (fun k hk => col_lt _ _ _ k (by omega))).below (by rw [hgl]; exact hb2)
  have hag2 : ∀ k, k < w.heap.size → col c1 gl 0 k = c k := fun k hk => by rw [col_lt _ _ _ k (by omega), hc1 k hk]
  have hgl0 : col c1 gl 0 gl = 0 := col_ge _ _ _ (Nat.le_refl _)
  have hX0 : ∀ id : Int, 0 ≤ (x0).1 := fun _ => by simp [x0]
  refine LoopP.inv1 (fun iv w' => ∃ (i : Nat) (c' : Nat → Nat), i ≤ 2 ∧ iv = .int .i64 i ∧ (∀ k, k < w.heap.size → c' k = c k) ∧ c' gl = 0 ∧ Blk w' gl 30 #[.pointer (some ⟨gb, 0, none⟩), .pointer (some ⟨ga, 0, none⟩)] ∧ Below w.heap.size w w' ∧
      TabX ho c' w' go (fun id => match i with | 0 => x0 | 1 => overX x0 (Vb id) | _ => overX (overX x0 (Vb id)) (Va id)) (match i with | 0 => 0 | 1 => Nb | _ => Nb + Na) (4 * i)) (fun iv _ => 2 - (intOf iv).toNat)
    ⟨0, col c1 gl 0, by omega, rfl, hag2, hgl0, hL2, hb12, hX2⟩ ?_
  rintro _ w3 ⟨i, c3, hi, rfl, hag3, hgl3, hL3, hb3, hX3⟩ J hJ
  dsimp only [List.headD_cons, List.tail_cons]
  have hs3 := hb3.size
  have hgl3' := hL3.lt
  refine bi_lss_c (fun h => ?_) (fun h => ?_)
  · have hi2 : i < 2 := by omega
    -- one source
    have src : ∃ (hs gs bms : Nat) (Ts : List (Int × Cli)) (V : Int → VC) (X : Int → XC) (N B M : Nat), TabAt hs c w gs bms Ts ∧ (∀ id, SeesO (getK id Ts) (V id)) ∧ (∀ id, GoodV (V id)) ∧ ho ≠ hs ∧ TabX ho c3 w3 go X N B ∧ (∀ id, 0 ≤ (X id).1) ∧ N + Ts.length < 1000000 ∧ Ts.length ≤ M ∧ B ≤ 8 ∧
        w3.cell? ⟨gl, i, none⟩ = some (.pointer (some ⟨gs, 0, none⟩)) ∧
        (∀ w' c', (∀ k, k < w.heap.size → c' k = c k) → c' gl = 0 → Blk w' gl 30 #[.pointer (some ⟨gb, 0, none⟩), .pointer (some ⟨ga, 0, none⟩)] → Below w.heap.size w w' → TabX ho c' w' go (fun id => overX (X id) (V id)) (N + M) (B + 4) → J [.int .i64 (i + 1)] w') := by
      match i, hi2 with
      | 0, _ =>
        refine ⟨hb, gb, bmb, Tb, Vb, _, _, _, Nb, hTb, hSb, gB, hnb, hX3, hX0, by simp only; omega, hLb, by omega, hL3.cell 0, ?_⟩
        intro w' c' k1 k2 k3 k4 k5
        exact hJ _ _ ⟨1, c', by omega, rfl, k1, k2, k3, k4, by simpa using k5⟩ (by simp [intOf])
      | 1, _ =>
        refine ⟨ha, ga, bma, Ta, Va, _, _, _, Na, hTa, hSa, gA, hna, hX3, fun id => ?_, by simp only; omega, hLa, by omega, hL3.cell 1, ?_⟩
        · have := (gB id).fl
          simp only [overX, x0]; omega
        intro w' c' k1 k2 k3 k4 k5
        exact hJ _ _ ⟨2, c', by omega, rfl, k1, k2, k3, k4, by simpa using k5⟩ (by simp [intOf])
    obtain ⟨hs, gs, bms, Ts, V, X, N, B, M, hT, hS, hG, hne, hXX, hXp, hNN, hM, hBB, hcell, kk⟩ := src
    have hT3 : TabAt hs c3 w3 gs bms Ts := hT.on (F := fun _ => False) (Turns.of_below hb3) (fun k _ h => h.elim) hag3
    have g0 : w3.cell? ⟨gs, 0, none⟩ = some (.map (some bms)) := hT3.blk.cell 0
    have hcell' : w3.cell? ((⟨gl, 0, none⟩ : Addr).add i) = some (.pointer (some ⟨gs, 0, none⟩)) := by rw [add0, Nat.zero_add]; exact hcell
    (repeat (first | (with_reducible refine ix1 und80 sz30 hi2 ?_) | (with_reducible refine ld one30 hcell' ?_) | (with_reducible refine fd t0 (by decide) ?_) | (with_reducible refine ld one58 g0 ?_) | (with_reducible refine nck ?_) | (with_reducible refine cdT ?_) | (with_reducible refine cdF ?_) | (with_reducible refine gdY ?_) | (with_reducible refine gdFT ?_) | (with_reducible refine gdTF ?_) | (with_reducible refine gdU ?_) | (with_reducible refine gaY ?_) | (with_reducible refine gaFT ?_) | (with_reducible refine gaTF ?_) | (with_reducible refine pickT ?_) | (with_reducible refine pickF ?_) | (with_reducible refine bi_lss_t (by omega) ?_) | (with_reducible refine bi_lss_f (by omega) ?_) | (with_reducible refine bi_add64 (by omega) ?_) | (with_reducible refine bi_sub64 (by omega) ?_) | (with_reducible refine bi_eql_t (by omega) ?_) | (with_reducible refine bi_eql_f (by omega) ?_) | (with_reducible refine bi_neq_t (by omega) ?_) | (with_reducible refine bi_neq_f (by omega) ?_) | (with_reducible refine bi_gtr_t (by omega) ?_) | (with_reducible refine bi_gtr_f (by omega) ?_) | (with_reducible refine bi_leq_t (by omega) ?_) | (with_reducible refine bi_leq_f (by omega) ?_) | (with_reducible refine bi_geq_t (by omega) ?_) | (with_reducible refine bi_geq_f (by omega) ?_) | (with_reducible refine bi_xt0 ?_) | (with_reducible refine bi_xt1 ?_) | (with_reducible refine bi_xt2 ?_) | (with_reducible refine bi_xt3 ?_) | (with_reducible refine bi_T ?_) | (with_reducible refine bi_F ?_) | (with_reducible refine bi_not ?_) | (with_reducible refine bi_and ?_) | (with_reducible refine bi_or ?_) | (with_reducible refine bi_xor ?_) | (with_reducible refine bi_shr (by omega) (by decide) ?_) | (with_reducible refine bi_shl (by omega) (by decide) ?_) | (with_reducible refine bi_quo64 (by omega) ?_) | (with_reducible refine bi_rem64 (by omega) ?_) | (with_reducible refine bi_mul64 (by omega) ?_) | (with_reducible refine bi_neg ?_) | (with_reducible refine bi_un_xor32 ?_) | (with_reducible refine bi_add ?_) | (with_reducible refine bi_sub ?_) | (with_reducible refine bi_mul ?_) | (with_reducible refine bi_quo (by decide) ?_) | (with_reducible refine bi_rem (by decide) ?_)))
    refine rng und58 hT3.map ?_
    intro w4 hm4 hb4
    rw [List.map_map] at hm4
    have hs4 := hb4.size
    have hcol := col_lt c3 w3.heap.size 0
    have hT4 := (hT3.re hcol).below hb4
    have hXX4 : TabX ho (col c3 w3.heap.size 0) w4 go X N B := by
      obtain ⟨T, h1, h2⟩ := hXX.out
      exact ⟨T, (h1.re hcol).below hb4, h2⟩
    refine mergeAll hT4 hS hG hm4 (col_ge _ _ _ (Nat.le_refl _)) hXX4 hXp hne hNN (by omega) ?_
    intro w5 c5 hc5 hX5 hT5
    obtain ⟨T5, q1, q2, q3, q4⟩ := hX5.out
    have hb5 : Below w.heap.size w4 w5 := hT5.below (by omega) fun k hk e => by
      rcases e with e | e
      · rw [Dh, hcol k (by omega), hag3 k hk] at e; exact hfree k hk e
      · omega
    (repeat (first | (with_reducible refine nck ?_) | (with_reducible refine cdT ?_) | (with_reducible refine cdF ?_) | (with_reducible refine gdY ?_) | (with_reducible refine gdFT ?_) | (with_reducible refine gdTF ?_) | (with_reducible refine gdU ?_) | (with_reducible refine gaY ?_) | (with_reducible refine gaFT ?_) | (with_reducible refine gaTF ?_) | (with_reducible refine pickT ?_) | (with_reducible refine pickF ?_) | (with_reducible refine bi_lss_t (by omega) ?_) | (with_reducible refine bi_lss_f (by omega) ?_) | (with_reducible refine bi_add64 (by omega) ?_) | (with_reducible refine bi_sub64 (by omega) ?_) | (with_reducible refine bi_eql_t (by omega) ?_) | (with_reducible refine bi_eql_f (by omega) ?_) | (with_reducible refine bi_neq_t (by omega) ?_) | (with_reducible refine bi_neq_f (by omega) ?_) | (with_reducible refine bi_gtr_t (by omega) ?_) | (with_reducible refine bi_gtr_f (by omega) ?_) | (with_reducible refine bi_leq_t (by omega) ?_) | (with_reducible refine bi_leq_f (by omega) ?_) | (with_reducible refine bi_geq_t (by omega) ?_) | (with_reducible refine bi_geq_f (by omega) ?_) | (with_reducible refine bi_xt0 ?_) | (with_reducible refine bi_xt1 ?_) | (with_reducible refine bi_xt2 ?_) | (with_reducible refine bi_xt3 ?_) | (with_reducible refine bi_T ?_) | (with_reducible refine bi_F ?_) | (with_reducible refine bi_not ?_) | (with_reducible refine bi_and ?_) | (with_reducible refine bi_or ?_) | (with_reducible refine bi_xor ?_) | (with_reducible refine bi_shr (by omega) (by decide) ?_) | (with_reducible refine bi_shl (by omega) (by decide) ?_) | (with_reducible refine bi_quo64 (by omega) ?_) | (with_reducible refine bi_rem64 (by omega) ?_) | (with_reducible refine bi_mul64 (by omega) ?_) | (with_reducible refine bi_neg ?_) | (with_reducible refine bi_un_xor32 ?_) | (with_reducible refine bi_add ?_) | (with_reducible refine bi_sub ?_) | (with_reducible refine bi_mul ?_) | (with_reducible refine bi_quo (by decide) ?_) | (with_reducible refine bi_rem (by decide) ?_)))
    refine kk _ c5 (fun k hk => by rw [hc5 k (by omega), hcol k (by omega), hag3 k hk]) (by rw [hc5 gl (by omega), hcol gl hgl3', hgl3]) ((hL3.below' hb4).turns hT5 (fun e => by
      rcases e with e | e
      · rw [Dh, hcol gl hgl3', hgl3] at e; omega
      · omega)) (hb3.trans ((hb4.mono (by omega)).trans hb5)) ⟨T5, q1, by omega, q3, q4⟩
  · have : i = 2 := by omega
    subst this
    obtain ⟨T, ⟨bm, hT⟩, hN3, hB3, hsh3⟩ := hX3.out
    obtain ⟨hh1, hh2⟩ := hT.hh
    have g0 : w3.cell? ⟨go, 0, none⟩ = some (.map (some bm)) := hT.blk.cell 0
    (repeat (first | (with_reducible refine fd t0 (by decide) ?_) | (with_reducible refine ld one58 g0 ?_) | (with_reducible refine nck ?_) | (with_reducible refine cdT ?_) | (with_reducible refine cdF ?_) | (with_reducible refine gdY ?_) | (with_reducible refine gdFT ?_) | (with_reducible refine gdTF ?_) | (with_reducible refine gdU ?_) | (with_reducible refine gaY ?_) | (with_reducible refine gaFT ?_) | (with_reducible refine gaTF ?_) | (with_reducible refine pickT ?_) | (with_reducible refine pickF ?_) | (with_reducible refine bi_lss_t (by omega) ?_) | (with_reducible refine bi_lss_f (by omega) ?_) | (with_reducible refine bi_add64 (by omega) ?_) | (with_reducible refine bi_sub64 (by omega) ?_) | (with_reducible refine bi_eql_t (by omega) ?_) | (with_reducible refine bi_eql_f (by omega) ?_) | (with_reducible refine bi_neq_t (by omega) ?_) | (with_reducible refine bi_neq_f (by omega) ?_) | (with_reducible refine bi_gtr_t (by omega) ?_) | (with_reducible refine bi_gtr_f (by omega) ?_) | (with_reducible refine bi_leq_t (by omega) ?_) | (with_reducible refine bi_leq_f (by omega) ?_) | (with_reducible refine bi_geq_t (by omega) ?_) | (with_reducible refine bi_geq_f (by omega) ?_) | (with_reducible refine bi_xt0 ?_) | (with_reducible refine bi_xt1 ?_) | (with_reducible refine bi_xt2 ?_) | (with_reducible refine bi_xt3 ?_) | (with_reducible refine bi_T ?_) | (with_reducible refine bi_F ?_) | (with_reducible refine bi_not ?_) | (with_reducible refine bi_and ?_) | (with_reducible refine bi_or ?_) | (with_reducible refine bi_xor ?_) | (with_reducible refine bi_shr (by omega) (by decide) ?_) | (with_reducible refine bi_shl (by omega) (by decide) ?_) | (with_reducible refine bi_quo64 (by omega) ?_) | (with_reducible refine bi_rem64 (by omega) ?_) | (with_reducible refine bi_mul64 (by omega) ?_) | (with_reducible refine bi_neg ?_) | (with_reducible refine bi_un_xor32 ?_) | (with_reducible refine bi_add ?_) | (with_reducible refine bi_sub ?_) | (with_reducible refine bi_mul ?_) | (with_reducible refine bi_quo (by decide) ?_) | (with_reducible refine bi_rem (by decide) ?_)))
    refine rng und58 hT.map ?_
    intro w4 hm4 hb4
    rw [List.map_map] at hm4
    have hs4 := hb4.size
    have hcol := col_lt c3 w3.heap.size 0
    have hT4 := (hT.re hcol).below hb4
    have hrz : col c3 w3.heap.size 0 w3.heap.size = 0 := col_ge _ _ _ (Nat.le_refl _)
    have hag4 : ∀ k, k < w.heap.size → col c3 w3.heap.size 0 k = c k := fun k hk => by rw [hcol k (by omega), hag3 k hk]
    have hb4' : Below w.heap.size w w4 := hb3.trans (hb4.mono hs3)
    generalize col c3 w3.heap.size 0 = c4 at *
    generalize hrr : w3.heap.size = r at *
    refine LoopP.inv0n (fun n w' => ∃ (todo : List Int) (T' : List (Int × Cli)), todo.length = n ∧ TabAt ho c4 w' go bm T' ∧ T'.length ≤ Nb + Na ∧ (∀ p ∈ T', p.1 ∈ todo → p.2.l.length ≤ 8) ∧
        (∀ id, if id ∈ todo then ShowsO (getK id T') (overX (overX x0 (Vb id)) (Va id)) else SeesO (getK id T') (joinV (Va id) (Vb id))) ∧ MapR w' bm r (T'.map fun p => (p.1, .pointer (some ⟨p.2.gc, 0, none⟩))) todo ∧ Below w.heap.size w w') (T.map (·.1)).length
      ⟨T.map (·.1), T, rfl, hT4, hN3, fun p hp _ => hB3 p hp, fun id => ?_, hm4, hb4'⟩ ?_
    · split
      · exact hsh3 id
      · rename_i hn
        have hnone : getK id T = none := getK_none_of id T fun p hp e => hn (List.mem_map.2 ⟨p, hp, e⟩)
        have h0 := hsh3 id
        rw [hnone] at h0 ⊢
        exact joinV_none (gA id) (gB id) h0
    rintro n w5 ⟨todo, T', rfl, hT5, hN5, hB5, hsh5, hm5, hb5⟩ J2 hJ2
    have hs5 := hb5.size
    refine nxt hm5 (fun e => ?_) ?_
    · subst e
      (repeat (first | (with_reducible refine nck ?_) | (with_reducible refine cdT ?_) | (with_reducible refine cdF ?_) | (with_reducible refine gdY ?_) | (with_reducible refine gdFT ?_) | (with_reducible refine gdTF ?_) | (with_reducible refine gdU ?_) | (with_reducible refine gaY ?_) | (with_reducible refine gaFT ?_) | (with_reducible refine gaTF ?_) | (with_reducible refine pickT ?_) | (with_reducible refine pickF ?_) | (with_reducible refine bi_lss_t (by omega) ?_) | (with_reducible refine bi_lss_f (by omega) ?_) | (with_reducible refine bi_add64 (by omega) ?_) | (with_reducible refine bi_sub64 (by omega) ?_) | (with_reducible refine bi_eql_t (by omega) ?_) | (with_reducible refine bi_eql_f (by omega) ?_) | (with_reducible refine bi_neq_t (by omega) ?_) | (with_reducible refine bi_neq_f (by omega) ?_) | (with_reducible refine bi_gtr_t (by omega) ?_) | (with_reducible refine bi_gtr_f (by omega) ?_) | (with_reducible refine bi_leq_t (by omega) ?_) | (with_reducible refine bi_leq_f (by omega) ?_) | (with_reducible refine bi_geq_t (by omega) ?_) | (with_reducible refine bi_geq_f (by omega) ?_) | (with_reducible refine bi_xt0 ?_) | (with_reducible refine bi_xt1 ?_) | (with_reducible refine bi_xt2 ?_) | (with_reducible refine bi_xt3 ?_) | (with_reducible refine bi_T ?_) | (with_reducible refine bi_F ?_) | (with_reducible refine bi_not ?_) | (with_reducible refine bi_and ?_) | (with_reducible refine bi_or ?_) | (with_reducible refine bi_xor ?_) | (with_reducible refine bi_shr (by omega) (by decide) ?_) | (with_reducible refine bi_shl (by omega) (by decide) ?_) | (with_reducible refine bi_quo64 (by omega) ?_) | (with_reducible refine bi_rem64 (by omega) ?_) | (with_reducible refine bi_mul64 (by omega) ?_) | (with_reducible refine bi_neg ?_) | (with_reducible refine bi_un_xor32 ?_) | (with_reducible refine bi_add ?_) | (with_reducible refine bi_sub ?_) | (with_reducible refine bi_mul ?_) | (with_reducible refine bi_quo (by decide) ?_) | (with_reducible refine bi_rem (by decide) ?_)))
      refine ⟨go, c4, rfl, hag4, ⟨fun id => joinV_good (gA id) (gB id), T', ⟨bm, hT5⟩, by omega, fun id => ?_⟩, hb5⟩
      have := hsh5 id
      rwa [if_neg (by simp)] at this
    · intro id v w6 hid hg hm6 hT6 hent
      obtain ⟨C, hgc, rfl⟩ := ptr_get hg
      have hmC := getK_mem _ _ _ hgc
      have hT6' : TabAt ho c4 w6 go bm T' := hT5.turns hT6 (fun j hj => by rw [hj, hrz]; omega)
      have hC := (hT6'.el _ hmC).2
      simp only at hC
      (repeat (first | (with_reducible refine nck ?_) | (with_reducible refine cdT ?_) | (with_reducible refine cdF ?_) | (with_reducible refine gdY ?_) | (with_reducible refine gdFT ?_) | (with_reducible refine gdTF ?_) | (with_reducible refine gdU ?_) | (with_reducible refine gaY ?_) | (with_reducible refine gaFT ?_) | (with_reducible refine gaTF ?_) | (with_reducible refine pickT ?_) | (with_reducible refine pickF ?_) | (with_reducible refine bi_lss_t (by omega) ?_) | (with_reducible refine bi_lss_f (by omega) ?_) | (with_reducible refine bi_add64 (by omega) ?_) | (with_reducible refine bi_sub64 (by omega) ?_) | (with_reducible refine bi_eql_t (by omega) ?_) | (with_reducible refine bi_eql_f (by omega) ?_) | (with_reducible refine bi_neq_t (by omega) ?_) | (with_reducible refine bi_neq_f (by omega) ?_) | (with_reducible refine bi_gtr_t (by omega) ?_) | (with_reducible refine bi_gtr_f (by omega) ?_) | (with_reducible refine bi_leq_t (by omega) ?_) | (with_reducible refine bi_leq_f (by omega) ?_) | (with_reducible refine bi_geq_t (by omega) ?_) | (with_reducible refine bi_geq_f (by omega) ?_) | (with_reducible refine bi_xt0 ?_) | (with_reducible refine bi_xt1 ?_) | (with_reducible refine bi_xt2 ?_) | (with_reducible refine bi_xt3 ?_) | (with_reducible refine bi_T ?_) | (with_reducible refine bi_F ?_) | (with_reducible refine bi_not ?_) | (with_reducible refine bi_and ?_) | (with_reducible refine bi_or ?_) | (with_reducible refine bi_xor ?_) | (with_reducible refine bi_shr (by omega) (by decide) ?_) | (with_reducible refine bi_shl (by omega) (by decide) ?_) | (with_reducible refine bi_quo64 (by omega) ?_) | (with_reducible refine bi_rem64 (by omega) ?_) | (with_reducible refine bi_mul64 (by omega) ?_) | (with_reducible refine bi_neg ?_) | (with_reducible refine bi_un_xor32 ?_) | (with_reducible refine bi_add ?_) | (with_reducible refine bi_sub ?_) | (with_reducible refine bi_mul ?_) | (with_reducible refine bi_quo (by decide) ?_) | (with_reducible refine bi_rem (by decide) ?_)))
      refine lift hent ?_
      (repeat (first | (with_reducible refine nck ?_) | (with_reducible refine cdT ?_) | (with_reducible refine cdF ?_) | (with_reducible refine gdY ?_) | (with_reducible refine gdFT ?_) | (with_reducible refine gdTF ?_) | (with_reducible refine gdU ?_) | (with_reducible refine gaY ?_) | (with_reducible refine gaFT ?_) | (with_reducible refine gaTF ?_) | (with_reducible refine pickT ?_) | (with_reducible refine pickF ?_) | (with_reducible refine bi_lss_t (by omega) ?_) | (with_reducible refine bi_lss_f (by omega) ?_) | (with_reducible refine bi_add64 (by omega) ?_) | (with_reducible refine bi_sub64 (by omega) ?_) | (with_reducible refine bi_eql_t (by omega) ?_) | (with_reducible refine bi_eql_f (by omega) ?_) | (with_reducible refine bi_neq_t (by omega) ?_) | (with_reducible refine bi_neq_f (by omega) ?_) | (with_reducible refine bi_gtr_t (by omega) ?_) | (with_reducible refine bi_gtr_f (by omega) ?_) | (with_reducible refine bi_leq_t (by omega) ?_) | (with_reducible refine bi_leq_f (by omega) ?_) | (with_reducible refine bi_geq_t (by omega) ?_) | (with_reducible refine bi_geq_f (by omega) ?_) | (with_reducible refine bi_xt0 ?_) | (with_reducible refine bi_xt1 ?_) | (with_reducible refine bi_xt2 ?_) | (with_reducible refine bi_xt3 ?_) | (with_reducible refine bi_T ?_) | (with_reducible refine bi_F ?_) | (with_reducible refine bi_not ?_) | (with_reducible refine bi_and ?_) | (with_reducible refine bi_or ?_) | (with_reducible refine bi_xor ?_) | (with_reducible refine bi_shr (by omega) (by decide) ?_) | (with_reducible refine bi_shl (by omega) (by decide) ?_) | (with_reducible refine bi_quo64 (by omega) ?_) | (with_reducible refine bi_rem64 (by omega) ?_) | (with_reducible refine bi_mul64 (by omega) ?_) | (with_reducible refine bi_neg ?_) | (with_reducible refine bi_un_xor32 ?_) | (with_reducible refine bi_add ?_) | (with_reducible refine bi_sub ?_) | (with_reducible refine bi_mul ?_) | (with_reducible refine bi_quo (by decide) ?_) | (with_reducible refine bi_rem (by decide) ?_)))
      have hl8 := hB5 _ hmC hid
      simp only at hl8
      refine (trim_spec c4 _ C w6 hC (by omega)).mono ?_
      rintro _ w7 ⟨hC7, hT7⟩
      have hFc : ∀ k, (k = C.gc ∨ k = C.br) → c4 k = hueC ho id := by
        rintro k (rfl | rfl)
        · exact hC.hue
        · exact hC.huem
      have hup := hT6'.upd hgc hT7 hFc hC7 rfl
      have hnd := hT6'.nodup
      have hm7 := hm6.turns hT7 (fun e => by
        have := hFc _ e
        rw [hT6'.huem] at this
        exact hueC_ne ho id this.symm) (fun e => by
        have := hFc _ e
        rw [hrz] at this
        unfold hueC at this; omega)
      have hsame : ((setK id ⟨C.gc, C.br, (trimP C.fl C.l).1, (trimP C.fl C.l).2⟩ T').map fun p : Int × Cli => (p.1, Value.pointer (some ⟨p.2.gc, 0, none⟩))) = T'.map fun p => (p.1, Value.pointer (some ⟨p.2.gc, 0, none⟩)) :=
        setK_same (v := (⟨C.gc, C.br, (trimP C.fl C.l).1, (trimP C.fl C.l).2⟩ : Cli)) (v0 := C) (fun C : Cli => Value.pointer (some ⟨C.gc, 0, none⟩)) rfl hgc
      have hT67 : Below w.heap.size w6 w7 := hT7.below (by have := hT6.size; omega) fun k hk e => by
        have h1 := hFc k e
        rw [hag4 k hk] at h1
        exact hfree k hk (by rw [h1, hueC_mod hh2])
      have hb7 : Below w.heap.size w w7 := hb5.trans ((hT6.below (by omega) fun k hk e => by omega).trans hT67)
      refine hJ2 _ _ (filter_lt hid) ⟨_, setK id ⟨C.gc, C.br, (trimP C.fl C.l).1, (trimP C.fl C.l).2⟩ T', rfl, hup, by rw [setK_len hgc]; exact hN5, fun p hp hpt => ?_, fun j => ?_, ?_, hb7⟩
      · rcases setK_mem' hnd hp with rfl | ⟨hp, _⟩
        · exact absurd hpt (by simp [List.mem_filter])
        · exact hB5 p hp (List.mem_filter.1 hpt).1
      · by_cases hj : j = id
        · subst hj
          rw [if_neg (by simp [List.mem_filter]), getK_setK_same]
          have h0 := hsh5 j
          rw [if_pos hid, hgc] at h0
          exact Shows.trim (gA j) (gB j) h0 hC.nodup C.gc C.br
        · rw [getK_setK_other _ _ hj]
          have : (j ∈ todo.filter fun k => decide (k ≠ id)) ↔ j ∈ todo := by simp [List.mem_filter, hj]
          simp only [this]
          exact hsh5 j
      · rw [hsame]; exact hm7
theorem Copy_V {ha ho hz : Nat} {c : Nat → Nat} {w : World} {ga : Nat} {Va : Int → VC} {Na : Nat} (hA : TabV ha c w ga Va Na) (hno : 0 < ho ∧ ho < 1000) (hnz : 0 < hz ∧ hz < 1000) (hna : ho ≠ ha) (hzo : ho ≠ hz) (hza : hz ≠ ha) (hN : Na < 800000) (hfree : ∀ k, k < w.heap.size → c k % 1000 ≠ ho) :
    CallP Try.prog 23 #[.pointer (some ⟨ga, 0, none⟩)] (fun r w' => ∃ go c', r = .pointer (some ⟨go, 0, none⟩) ∧ (∀ k, k < w.heap.size → c' k = c k) ∧ TabV ho c' w' go (fun id => joinV (Va id) (0, [])) Na ∧ Below w.heap.size w w') w := by
  refine ⟨S23.calls _ _ _ ?_⟩
  unfold S23
  refine (New_V hz hnz c w).mono ?_
  rintro _ w1 ⟨gz, c1, rfl, hc1, hZ, hb1⟩
  have hs1 := hb1.size
  obtain ⟨cz, hz1, hz2, hz3⟩ : ∃ cz : Nat → Nat, (∀ k, k < w.heap.size → cz k = c k) ∧ (∀ k, c1 k % 1000 = hz → cz k = c1 k) ∧ (∀ k, w.heap.size ≤ k → cz k % 1000 = hz ∨ cz k = 0) :=
    ⟨fun k => if k < w.heap.size ∨ c1 k % 1000 = hz then c1 k else 0, fun k hk => by simp only; rw [if_pos (.inl hk), hc1 k hk], fun k hk => by simp only; rw [if_pos (.inr hk)], fun k hk => by
      simp only
      split
      · rename_i h
        rcases h with h | h
        · omega
        · exact .inl h
      · exact .inr rfl⟩
  have hA1 : TabV ha cz w1 ga Va Na := (hA.re hz1).below hb1
  have hZ1 : TabV hz cz w1 gz V0 0 := hZ.re1 fun k _ hk => hz2 k hk
  refine (Join_V hA1 hZ1 hno hna hzo (by omega) (fun k hk e => ?_)).mono ?_
  · rcases Nat.lt_or_ge k w.heap.size with h1 | h1
    · rw [hz1 k h1] at e; exact hfree k h1 e
    · rcases hz3 k h1 with h | h
      · rw [h] at e; exact hzo e.symm
      · rw [h] at e; omega
  · rintro _ w2 ⟨go, c2, rfl, hc2, h2, hb2⟩
    exact ⟨go, c2, rfl, fun k hk => by rw [hc2 k (by omega), hz1 k hk], h2, below_then hb1 hb2⟩
end Go.Proofs.Ytmnaggdhkggjhaa.E
