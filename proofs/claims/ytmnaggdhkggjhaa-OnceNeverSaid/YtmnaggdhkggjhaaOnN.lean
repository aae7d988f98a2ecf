/- Join: tables told by what each number shows; the answers of one client put into another's. -/
import Derived.Test.YtmnaggdhkggjhaaOnM
namespace Go.Proofs.Ytmnaggdhkggjhaa.E
open Go Go.RowKit
set_option linter.unusedSimpArgs false
set_option linter.unusedVariables false

abbrev XC := Int × (Int → Option Rm)
def x0 : XC := (0, fun _ => none)
def overX (x : XC) (v : VC) : XC := (max x.1 v.1, fun n => (getK n v.2).or (x.2 n))
theorem overX_none (x : XC) (h : 0 ≤ x.1) : overX x (0, []) = x := by
  unfold overX
  rw [Int.max_eq_left h]
  simp [getK]
/-- A client in memory shows this. -/
structure Shows (C : Cli) (x : XC) : Prop where
  fl : C.fl = x.1
  get : ∀ n, (getK n C.l).map Rp.abs = x.2 n
theorem setK_len_le {α : Type} (k : Int) (v : α) : ∀ l : List (Int × α), (setK k v l).length ≤ l.length + 1
  | [] => by simp [setK]
  | (a, u) :: r => by
    rw [setK]
    split
    · simp
    · have := setK_len_le k v r; simp; omega
theorem CliAt.nodup {c : Nat → Nat} {x : Nat} {w : World} {C : Cli} (h : CliAt c x w C) : (C.l.map (·.1)).Nodup := by
  have := h.map.nodup
  rwa [List.map_map] at this
theorem filter_lt {todo : List Int} {k : Int} (hk : k ∈ todo) : (todo.filter fun j => decide (j ≠ k)).length < todo.length := by
  rw [List.length_filter_lt_length_iff_exists]
  exact ⟨k, hk, by simp⟩
/-- x.replies[n] = copied(r), for all of a client's. -/
theorem copyAll {K : World → Prop} {c : Nat → Nat} {x xs : Nat} {Co Cs : Cli} {r : Nat} {w : World} (ho : CliAt c x w Co) (hs : CliAt c xs w Cs) (hx : x ≠ xs) (hr : MapR w Cs.br r (Cs.l.map fun p => (p.1, p.2.val)) (Cs.l.map (·.1)))
    (hl : Co.l.length ≤ 1000) (hls : Cs.l.length ≤ 1000) (hwf : ∀ p ∈ Cs.l, 0 ≤ p.1 ∧ p.1 ≤ 1099511627776)
    (k : ∀ w' c' lo, (∀ j, j < w.heap.size → c' j = c j) → CliAt c' x w' ⟨Co.gc, Co.br, Co.fl, lo⟩ → (∀ n, (getK n lo).map Rp.abs = ((getK n Cs.l).map Rp.abs).or ((getK n Co.l).map Rp.abs)) → lo.length ≤ Co.l.length + Cs.l.length →
      Turns (fun j => j = Co.br ∨ j = r) w w' → K w') :
    LoopP (fun J_2 vs_2 w =>
        LiftP Try.prog (Instr.next (.pointer (some ⟨r, 0, none⟩)) false 0) (fun v54 w =>
        LiftP Try.prog (Instr.extract v54 0) (fun v55 w =>
        CondP v55 (fun w =>
          LiftP Try.prog (Instr.entry (.pointer (some ⟨r, 0, none⟩))) (fun v56 w =>
        LiftP Try.prog (Instr.extract v56 0) (fun v57 w =>
        LiftP Try.prog (Instr.extract v56 1) (fun v58 w =>
        LiftP Try.prog (Instr.alloc 27 true (.tuple #[])) (fun v12 w =>
        LiftU Try.prog (Instr.storeAt 27 v12 v58) (fun v__1 w =>
        DrawP (fun S w =>
        YieldN Try.prog S (nilChk (.pointer (some ⟨Co.gc, 0, none⟩))) (fun v60 w =>
        YieldP Try.prog S (Instr.fieldAt 68 v60 1) (fun v61 w =>
        YieldP Try.prog S (Instr.loadAt 66 v61) (fun v62 w =>
        YieldP Try.prog S (Instr.loadAt 27 v12) (fun v64 w =>
        ActP S (fun K w => CallP Try.prog 27 #[v64] K w) (fun S v65 w =>
        LiftU Try.prog (Instr.mapUpdate 66 v62 v57 v65) (fun v__2 w =>
        J_2 [] w) w) w) w) w) w) w) w) w) w) w) w) w) K w) w) w) [] w := by
  have hsr : r ≠ Cs.br := hr.ne
  have hrl := hr.ltr
  have hsb := hr.ltb
  have hob := ho.map.lt
  have hbb : Co.br ≠ Cs.br := fun e => hx (ho.huem.symm.trans (by rw [e]; exact hs.huem))
  have hgb : Co.gc ≠ Co.br := map_ne ho.blk ho.map
  refine LoopP.inv0n (fun n w' => ∃ (todo : List Int) (c' : Nat → Nat) (lo : List (Int × Rp)), todo.length = n ∧ (∀ j, j < w.heap.size → c' j = c j) ∧ CliAt c' x w' ⟨Co.gc, Co.br, Co.fl, lo⟩ ∧
      (∀ n, (getK n lo).map Rp.abs = if n ∈ todo then (getK n Co.l).map Rp.abs else ((getK n Cs.l).map Rp.abs).or ((getK n Co.l).map Rp.abs)) ∧ lo.length + todo.length ≤ Co.l.length + Cs.l.length ∧
      MapR w' Cs.br r (Cs.l.map fun p => (p.1, p.2.val)) todo ∧ Turns (fun j => j = Co.br ∨ j = r) w w') (Cs.l.map (·.1)).length
    ⟨Cs.l.map (·.1), c, Co.l, rfl, fun _ _ => rfl, ho, fun n => ?_, by simp, hr, Turns.refl _ _⟩ ?_
  · split
    · rfl
    · rename_i hn
      rw [getK_none_of n Cs.l fun p hp e => hn (List.mem_map.2 ⟨p, hp, e⟩)]; rfl
  rintro n w1 ⟨todo, c1, lo, rfl, hc1, h1, hget, hlen, hm1, hT1⟩ J hJ
  refine nxt hm1 (fun e => ?_) ?_
  · subst e
    (repeat (first | (with_reducible refine nck ?_) | (with_reducible refine cdT ?_) | (with_reducible refine cdF ?_) | (with_reducible refine gdY ?_) | (with_reducible refine gdFT ?_) | (with_reducible refine gdTF ?_) | (with_reducible refine gdU ?_) | (with_reducible refine gaY ?_) | (with_reducible refine gaFT ?_) | (with_reducible refine gaTF ?_) | (with_reducible refine pickT ?_) | (with_reducible refine pickF ?_) | (with_reducible refine bi_lss_t (by omega) ?_) | (with_reducible refine bi_lss_f (by omega) ?_) | (with_reducible refine bi_add64 (by omega) ?_) | (with_reducible refine bi_sub64 (by omega) ?_) | (with_reducible refine bi_eql_t (by omega) ?_) | (with_reducible refine bi_eql_f (by omega) ?_) | (with_reducible refine bi_neq_t (by omega) ?_) | (with_reducible refine bi_neq_f (by omega) ?_) | (with_reducible refine bi_gtr_t (by omega) ?_) | (with_reducible refine bi_gtr_f (by omega) ?_) | (with_reducible refine bi_leq_t (by omega) ?_) | (with_reducible refine bi_leq_f (by omega) ?_) | (with_reducible refine bi_geq_t (by omega) ?_) | (with_reducible refine bi_geq_f (by omega) ?_) | (with_reducible refine bi_xt0 ?_) | (with_reducible refine bi_xt1 ?_) | (with_reducible refine bi_xt2 ?_) | (with_reducible refine bi_xt3 ?_) | (with_reducible refine bi_T ?_) | (with_reducible refine bi_F ?_) | (with_reducible refine bi_not ?_) | (with_reducible refine bi_and ?_) | (with_reducible refine bi_or ?_) | (with_reducible refine bi_xor ?_) | (with_reducible refine bi_shr (by omega) (by decide) ?_) | (with_reducible refine bi_shl (by omega) (by decide) ?_) | (with_reducible refine bi_quo64 (by omega) ?_) | (with_reducible refine bi_rem64 (by omega) ?_) | (with_reducible refine bi_mul64 (by omega) ?_) | (with_reducible refine bi_neg ?_) | (with_reducible refine bi_un_xor32 ?_) | (with_reducible refine bi_add ?_) | (with_reducible refine bi_sub ?_) | (with_reducible refine bi_mul ?_) | (with_reducible refine bi_quo (by decide) ?_) | (with_reducible refine bi_rem (by decide) ?_)))
    refine k _ c1 lo hc1 h1 (fun n => ?_) (by simpa using hlen) hT1
    rw [hget n, if_neg (by simp)]
  · intro key v w2 hk hg hm2 hT2 hent
    rw [getK_map Rp.val] at hg
    obtain ⟨m, hgm, rfl⟩ := Option.map_eq_some_iff.1 hg
    have hmem := getK_mem _ _ _ hgm
    have hm := hs.el _ hmem
    have hrb : r ≠ Co.br := fun e => by
      obtain ⟨es, cl, he, _⟩ := h1.map
      obtain ⟨_, _, _, _, _, _, _, _, _, _, h6, _⟩ := hm1
      rw [e, he] at h6
      cases h6
    have hrg : Co.gc ≠ r := fun e => by
      have := h1.blk
      obtain ⟨_, _, _, _, _, _, _, _, _, _, h6, _⟩ := hm1
      unfold Blk at this
      simp only at this
      rw [e, h6] at this
      cases this
    have hTw2 : Turns (fun j => j = Co.br ∨ j = r) w w2 := hT1.trans (hT2.mono fun j _ e => .inl (.inr e))
    have hm' : RpAt c xs w2 m := hm.turns hTw2 (fun j hj e => by
      rcases e with e | e
      · exact hx (by rw [← ho.huem, ← e]; exact hm.hue j hj)
      · subst e
        have := own_nem hm.own hs.map
        have hlt := hm.own.lt hj
        have hb := hm.own
        rcases hb.2 with ⟨h, _⟩ | ⟨g, cur, h, hbl, _⟩
        · rw [h] at hj; cases hj
        · rw [h] at hj
          have : g = j := by simpa [Value.ownBlock] using hj
          subst this
          obtain ⟨_, _, _, _, _, _, _, _, _, _, h6, _⟩ := hr
          unfold Blk at hbl
          rw [h6] at hbl
          cases hbl)
    have h2 : CliAt c1 x w2 ⟨Co.gc, Co.br, Co.fl, lo⟩ := ⟨h1.hue, h1.huem, h1.blk.turns hT2 hrg, h1.map.turns hT2 (fun e => hrb e.symm), fun p hp => (h1.el p hp).turns hT2 (fun j hj e => by
      subst e
      rcases (h1.el p hp).own.2 with ⟨h, _⟩ | ⟨g, cur, h, hbl, _⟩
      · rw [h] at hj; cases hj
      · rw [h] at hj
        have : g = j := by simpa [Value.ownBlock] using hj
        subst this
        obtain ⟨_, _, _, _, _, _, _, _, _, _, h6, _⟩ := hm1
        unfold Blk at hbl
        rw [h6] at hbl
        cases hbl)⟩
    (repeat (first | (with_reducible refine nck ?_) | (with_reducible refine cdT ?_) | (with_reducible refine cdF ?_) | (with_reducible refine gdY ?_) | (with_reducible refine gdFT ?_) | (with_reducible refine gdTF ?_) | (with_reducible refine gdU ?_) | (with_reducible refine gaY ?_) | (with_reducible refine gaFT ?_) | (with_reducible refine gaTF ?_) | (with_reducible refine pickT ?_) | (with_reducible refine pickF ?_) | (with_reducible refine bi_lss_t (by omega) ?_) | (with_reducible refine bi_lss_f (by omega) ?_) | (with_reducible refine bi_add64 (by omega) ?_) | (with_reducible refine bi_sub64 (by omega) ?_) | (with_reducible refine bi_eql_t (by omega) ?_) | (with_reducible refine bi_eql_f (by omega) ?_) | (with_reducible refine bi_neq_t (by omega) ?_) | (with_reducible refine bi_neq_f (by omega) ?_) | (with_reducible refine bi_gtr_t (by omega) ?_) | (with_reducible refine bi_gtr_f (by omega) ?_) | (with_reducible refine bi_leq_t (by omega) ?_) | (with_reducible refine bi_leq_f (by omega) ?_) | (with_reducible refine bi_geq_t (by omega) ?_) | (with_reducible refine bi_geq_f (by omega) ?_) | (with_reducible refine bi_xt0 ?_) | (with_reducible refine bi_xt1 ?_) | (with_reducible refine bi_xt2 ?_) | (with_reducible refine bi_xt3 ?_) | (with_reducible refine bi_T ?_) | (with_reducible refine bi_F ?_) | (with_reducible refine bi_not ?_) | (with_reducible refine bi_and ?_) | (with_reducible refine bi_or ?_) | (with_reducible refine bi_xor ?_) | (with_reducible refine bi_shr (by omega) (by decide) ?_) | (with_reducible refine bi_shl (by omega) (by decide) ?_) | (with_reducible refine bi_quo64 (by omega) ?_) | (with_reducible refine bi_rem64 (by omega) ?_) | (with_reducible refine bi_mul64 (by omega) ?_) | (with_reducible refine bi_neg ?_) | (with_reducible refine bi_un_xor32 ?_) | (with_reducible refine bi_add ?_) | (with_reducible refine bi_sub ?_) | (with_reducible refine bi_mul ?_) | (with_reducible refine bi_quo (by decide) ?_) | (with_reducible refine bi_rem (by decide) ?_)))
    refine lift hent ?_
    (repeat (first | (with_reducible refine nck ?_) | (with_reducible refine cdT ?_) | (with_reducible refine cdF ?_) | (with_reducible refine gdY ?_) | (with_reducible refine gdFT ?_) | (with_reducible refine gdTF ?_) | (with_reducible refine gdU ?_) | (with_reducible refine gaY ?_) | (with_reducible refine gaFT ?_) | (with_reducible refine gaTF ?_) | (with_reducible refine pickT ?_) | (with_reducible refine pickF ?_) | (with_reducible refine bi_lss_t (by omega) ?_) | (with_reducible refine bi_lss_f (by omega) ?_) | (with_reducible refine bi_add64 (by omega) ?_) | (with_reducible refine bi_sub64 (by omega) ?_) | (with_reducible refine bi_eql_t (by omega) ?_) | (with_reducible refine bi_eql_f (by omega) ?_) | (with_reducible refine bi_neq_t (by omega) ?_) | (with_reducible refine bi_neq_f (by omega) ?_) | (with_reducible refine bi_gtr_t (by omega) ?_) | (with_reducible refine bi_gtr_f (by omega) ?_) | (with_reducible refine bi_leq_t (by omega) ?_) | (with_reducible refine bi_leq_f (by omega) ?_) | (with_reducible refine bi_geq_t (by omega) ?_) | (with_reducible refine bi_geq_f (by omega) ?_) | (with_reducible refine bi_xt0 ?_) | (with_reducible refine bi_xt1 ?_) | (with_reducible refine bi_xt2 ?_) | (with_reducible refine bi_xt3 ?_) | (with_reducible refine bi_T ?_) | (with_reducible refine bi_F ?_) | (with_reducible refine bi_not ?_) | (with_reducible refine bi_and ?_) | (with_reducible refine bi_or ?_) | (with_reducible refine bi_xor ?_) | (with_reducible refine bi_shr (by omega) (by decide) ?_) | (with_reducible refine bi_shl (by omega) (by decide) ?_) | (with_reducible refine bi_quo64 (by omega) ?_) | (with_reducible refine bi_rem64 (by omega) ?_) | (with_reducible refine bi_mul64 (by omega) ?_) | (with_reducible refine bi_neg ?_) | (with_reducible refine bi_un_xor32 ?_) | (with_reducible refine bi_add ?_) | (with_reducible refine bi_sub ?_) | (with_reducible refine bi_mul ?_) | (with_reducible refine bi_quo (by decide) ?_) | (with_reducible refine bi_rem (by decide) ?_)))
    refine newRep hm'.one rfl ?_
    intro w3 hM3 hb3
    have h3 := h2.below hb3
    have hm3 := hm2.below hb3
    have hdr : Below w3.heap.size w3 w3.drew := (Below.refl _ _).drew
    have sm : ∀ w', (Blk w' Co.gc 68 #[.int .i64 Co.fl, .map (some Co.br)] ∧ Blk w' w2.heap.size 27 (m.R.cells m.p (.slice none 0 0))) → w'.cell? ⟨Co.gc, 1, none⟩ = some (.map (some Co.br)) := fun w' h => h.1.cell 1
    refine draw (fun w' => Blk w' Co.gc 68 #[.int .i64 Co.fl, .map (some Co.br)] ∧ Blk w' w2.heap.size 27 (m.R.cells m.p (.slice none 0 0))) ⟨h3.blk.below' hdr, hM3.below' hdr⟩ ?_
    (repeat (first | (with_reducible refine yfd k1 (by decide) ?_) | (with_reducible refine yl1 one66 sm ?_) | (with_reducible refine ynck ?_) | (with_reducible refine nck ?_) | (with_reducible refine cdT ?_) | (with_reducible refine cdF ?_) | (with_reducible refine gdY ?_) | (with_reducible refine gdFT ?_) | (with_reducible refine gdTF ?_) | (with_reducible refine gdU ?_) | (with_reducible refine gaY ?_) | (with_reducible refine gaFT ?_) | (with_reducible refine gaTF ?_) | (with_reducible refine pickT ?_) | (with_reducible refine pickF ?_) | (with_reducible refine yi_lss_t (by omega) ?_) | (with_reducible refine yi_lss_f (by omega) ?_) | (with_reducible refine yi_add64 (by omega) ?_) | (with_reducible refine yi_sub64 (by omega) ?_) | (with_reducible refine yi_eql_t (by omega) ?_) | (with_reducible refine yi_eql_f (by omega) ?_) | (with_reducible refine yi_neq_t (by omega) ?_) | (with_reducible refine yi_neq_f (by omega) ?_) | (with_reducible refine yi_gtr_t (by omega) ?_) | (with_reducible refine yi_gtr_f (by omega) ?_) | (with_reducible refine yi_leq_t (by omega) ?_) | (with_reducible refine yi_leq_f (by omega) ?_) | (with_reducible refine yi_geq_t (by omega) ?_) | (with_reducible refine yi_geq_f (by omega) ?_) | (with_reducible refine yi_xt0 ?_) | (with_reducible refine yi_xt1 ?_) | (with_reducible refine yi_xt2 ?_) | (with_reducible refine yi_xt3 ?_) | (with_reducible refine yi_T ?_) | (with_reducible refine yi_F ?_) | (with_reducible refine yi_not ?_) | (with_reducible refine yi_and ?_) | (with_reducible refine yi_or ?_) | (with_reducible refine yi_xor ?_) | (with_reducible refine yi_shr (by omega) (by decide) ?_) | (with_reducible refine yi_shl (by omega) (by decide) ?_) | (with_reducible refine yi_quo64 (by omega) ?_) | (with_reducible refine yi_rem64 (by omega) ?_) | (with_reducible refine yi_mul64 (by omega) ?_) | (with_reducible refine yi_neg ?_) | (with_reducible refine yi_un_xor32 ?_) | (with_reducible refine yi_add ?_) | (with_reducible refine yi_sub ?_) | (with_reducible refine yi_mul ?_) | (with_reducible refine yi_quo (by decide) ?_) | (with_reducible refine yi_rem (by decide) ?_)))
    refine yldA agg27 (fun w' h => h.2) (by exact sz27) ?_
    refine act ?_
    have hb23 := below_then hb3 hdr
    refine (copied_spec m.R m.p _ m.vs w3.drew (keeps_Vals _ _ _ _ hb23 hm'.vals) rfl (by have := hm'.len; omega)).mono ?_
    rintro _ w4 ⟨p4, rfl, hop4, hfp4, hb4⟩
    have hb34 : Below w3.heap.size w3 w4 := below_then hdr hb4
    have hb24 : Below w2.heap.size w2 w4 := below_then hb3 hb34
    refine ⟨_, ⟨h3.blk.below' hb34, hM3.below' hb34⟩, fun _ h => h, ?_⟩
    have hs2 := hTw2.size
    have hs23 := hb3.size
    have h4 : CliAt (col c1 w2.heap.size x) x w4 ⟨Co.gc, Co.br, Co.fl, lo⟩ := (h2.re (col_lt c1 w2.heap.size x)).below hb24
    have hrp4 : RpAt (col c1 w2.heap.size x) x w4 ⟨m.R, p4, m.vs⟩ := ⟨hop4, fun b hb => col_ge _ _ _ (by have := hfp4 b hb; have := hb23.size; omega), hm'.ok, hm'.len⟩
    have hkw := hwf _ hmem
    refine mup und66 und3 h4.map (wf64 (by simp only at hkw; omega)) (by rw [List.length_map]; simp only [maxLen]; omega) ?_
    intro w5 hm5 hT5
    have hm5' : MapI w5 Co.br ((setK key (⟨m.R, p4, m.vs⟩ : Rp) lo).map fun p => (p.1, p.2.val)) := by
      rw [← setK_map Rp.val key ⟨m.R, p4, m.vs⟩]
      exact hm5
    have hnd := h4.nodup
    have hbk5 := h4.blk.turns hT5 hgb
    have h5 : CliAt (col c1 w2.heap.size x) x w5 ⟨Co.gc, Co.br, Co.fl, setK key ⟨m.R, p4, m.vs⟩ lo⟩ := by
      refine ⟨h4.hue, h4.huem, hbk5, hm5', fun p hp => ?_⟩
      rcases setK_mem' hnd hp with rfl | ⟨hp, _⟩
      · exact hrp4.turns hT5 (fun j hj e => own_nem hrp4.own h4.map (by rw [← e]; exact hj))
      · exact (h4.el p hp).turns hT5 (fun j hj e => own_nem (h4.el p hp).own h4.map (by rw [← e]; exact hj))
    have hT25 : Turns (fun j => j = Co.br ∨ j = r) w2 w5 := (Turns.of_below hb24).trans (hT5.mono fun j _ e => .inl (.inl e))
    refine hJ _ _ (filter_lt hk) ⟨_, col c1 w2.heap.size x, setK key ⟨m.R, p4, m.vs⟩ lo, rfl, fun j hj => by rw [col_lt _ _ _ _ (by omega), hc1 j hj], h5, fun n => ?_, ?_, (hm2.below hb24).turns hT5 (fun e => hbb e.symm) hrb, hTw2.trans (hT25.mono fun j _ e => .inl e)⟩
    · by_cases hn : n = key
      · subst hn
        rw [getK_setK_same, if_neg (by simp [List.mem_filter]), hgm]
        rfl
      · rw [getK_setK_other _ _ hn, hget n]
        have : (n ∈ todo.filter fun j => decide (j ≠ key)) ↔ n ∈ todo := by simp [List.mem_filter, hn]
        simp only [this]
    · have h1 := setK_len_le key (⟨m.R, p4, m.vs⟩ : Rp) lo
      have h2 := filter_lt hk
      omega
end Go.Proofs.Ytmnaggdhkggjhaa.E
