import Derived.Test.YtmnaggdhkggjhaaM5
import Derived.Test.YtmnaggdhkggjhaaS3
/- Join: tables told by what each number shows; the answers of one client put into another's. -/
namespace Go.Proofs.Ytmnaggdhkggjhaa.E
open Go Go.RowKit
set_option linter.unusedSimpArgs false
set_option linter.unusedVariables false

abbrev XC := Int × (Int → Option Rm)
def x0 : XC := (0, fun _ => none)
def overX (x : XC) (v : VC) : XC := (max x.1 v.1, fun n => (getK n v.2).or (x.2 n))
theorem overX_none (x : XC) (h : 0 ≤ x.1) : overX x (0, []) = x := by
  unfold overX
  rw [Int.max_eq_left h]
  simp [getK]
/-- A client in memory shows this. -/
structure Shows (C : Cli) (x : XC) : Prop where
  fl : C.fl = x.1
  get : ∀ n, (getK n C.l).map Rp.abs = x.2 n
theorem setK_len_le {α : Type} (k : Int) (v : α) : ∀ l : List (Int × α), (setK k v l).length ≤ l.length + 1
  | [] => by simp [setK]
  | (a, u) :: r => by
    rw [setK]
    split
    · simp
    · have := setK_len_le k v r; simp; omega
theorem CliAt.nodup {c : Nat → Nat} {x : Nat} {w : World} {C : Cli} (h : CliAt c x w C) : (C.l.map (·.1)).Nodup := by
  have := h.map.nodup
  rwa [List.map_map] at this
theorem filter_lt {todo : List Int} {k : Int} (hk : k ∈ todo) : (todo.filter fun j => decide (j ≠ k)).length < todo.length := by
  rw [List.length_filter_lt_length_iff_exists]
  exact ⟨k, hk, by simp⟩
/-- x.replies[n] = copied(r), for all of a client's. -/
theorem copyAll {K : World → Prop} {c : Nat → Nat} {x xs : Nat} {Co Cs : Cli} {r : Nat} {w : World} (ho : CliAt c x w Co) (hs : CliAt c xs w Cs) (hx : x ≠ xs) (hr : MapR w Cs.br r (Cs.l.map fun p => (p.1, p.2.val)) (Cs.l.map (·.1)))
    (hl : Co.l.length ≤ 1000) (hls : Cs.l.length ≤ 1000) (hwf : ∀ p ∈ Cs.l, 0 ≤ p.1 ∧ p.1 ≤ 1099511627776)
    (k : ∀ w' c' lo, (∀ j, j < w.heap.size → c' j = c j) → CliAt c' x w' ⟨Co.gc, Co.br, Co.fl, lo⟩ → (∀ n, (getK n lo).map Rp.abs = ((getK n Cs.l).map Rp.abs).or ((getK n Co.l).map Rp.abs)) → lo.length ≤ Co.l.length + Cs.l.length →
      Turns (fun j => j = Co.br ∨ j = r) w w' → K w') :
    LoopP (fun J_2 vs_2 w =>
        LiftP Try.prog (Instr.next (.pointer (some ⟨r, 0, none⟩)) false 0) (fun v54 w =>
        LiftP Try.prog (Instr.extract v54 0) (fun v55 w =>
        CondP v55 (fun w =>
          LiftP Try.prog (Instr.entry (.pointer (some ⟨r, 0, none⟩))) (fun v56 w =>
        LiftP Try.prog (Instr.extract v56 0) (fun v57 w =>
        LiftP Try.prog (Instr.extract v56 1) (fun v58 w =>
        LiftP Try.prog (Instr.alloc 27 true (.tuple #[])) (fun v12 w =>
        LiftU Try.prog (Instr.storeAt 27 v12 v58) (fun v__1 w =>
        DrawP (fun S w =>
        YieldN Try.prog S (nilChk (.pointer (some ⟨Co.gc, 0, none⟩))) (fun v60 w =>
        YieldP Try.prog S (Instr.fieldAt 68 v60 1) (fun v61 w =>
        YieldP Try.prog S (Instr.loadAt 66 v61) (fun v62 w =>
        YieldP Try.prog S (Instr.loadAt 27 v12) (fun v64 w =>
        ActP S (fun K w => CallP Try.prog 27 #[v64] K w) (fun S v65 w =>
        LiftU Try.prog (Instr.mapUpdate 66 v62 v57 v65) (fun v__2 w =>
        J_2 [] w) w) w) w) w) w) w) w) w) w) w) w) w) K w) w) w) [] w := by
  have hsr : r ≠ Cs.br := hr.ne
  have hrl := hr.ltr
  have hsb := hr.ltb
  have hob := ho.map.lt
  have hbb : Co.br ≠ Cs.br := fun e => hx (ho.huem.symm.trans (by rw [e]; exact hs.huem))
  have hgb : Co.gc ≠ Co.br := map_ne ho.blk ho.map
  refine LoopP.inv0n (fun n w' => ∃ (todo : List Int) (c' : Nat → Nat) (lo : List (Int × Rp)), todo.length = n ∧ (∀ j, j < w.heap.size → c' j = c j) ∧ CliAt c' x w' ⟨Co.gc, Co.br, Co.fl, lo⟩ ∧
      (∀ n, (getK n lo).map Rp.abs = if n ∈ todo then (getK n Co.l).map Rp.abs else ((getK n Cs.l).map Rp.abs).or ((getK n Co.l).map Rp.abs)) ∧ lo.length + todo.length ≤ Co.l.length + Cs.l.length ∧
      MapR w' Cs.br r (Cs.l.map fun p => (p.1, p.2.val)) todo ∧ Turns (fun j => j = Co.br ∨ j = r) w w') (Cs.l.map (·.1)).length
    ⟨Cs.l.map (·.1), c, Co.l, rfl, fun _ _ => rfl, ho, fun n => ?_, by simp, hr, Turns.refl _ _⟩ ?_
  · split
    · rfl
    · rename_i hn
      rw [getK_none_of n Cs.l fun p hp e => hn (List.mem_map.2 ⟨p, hp, e⟩)]; rfl
  rintro n w1 ⟨todo, c1, lo, rfl, hc1, h1, hget, hlen, hm1, hT1⟩ J hJ
  refine nxt hm1 (fun e => ?_) ?_
  · subst e
    (repeat with_reducible first | refine nck ?_ | refine cdT ?_ | refine cdF ?_ | refine gdY ?_ | refine gdFT ?_ | refine gdTF ?_ | refine gdU ?_ | refine gaY ?_ | refine gaFT ?_ | refine gaTF ?_ | refine pickT ?_ | refine pickF ?_ | refine bi_lss_t (by omega) ?_ | refine bi_lss_f (by omega) ?_ | refine bi_add64 (by omega) ?_ | refine bi_sub64 (by omega) ?_ | refine bi_eql_t (by omega) ?_ | refine bi_eql_f (by omega) ?_ | refine bi_neq_t (by omega) ?_ | refine bi_neq_f (by omega) ?_ | refine bi_gtr_t (by omega) ?_ | refine bi_gtr_f (by omega) ?_ | refine bi_leq_t (by omega) ?_ | refine bi_leq_f (by omega) ?_ | refine bi_geq_t (by omega) ?_ | refine bi_geq_f (by omega) ?_ | refine bi_xt0 ?_ | refine bi_xt1 ?_ | refine bi_xt2 ?_ | refine bi_xt3 ?_ | refine bi_T ?_ | refine bi_F ?_ | refine bi_not ?_ | refine bi_and ?_ | refine bi_or ?_ | refine bi_xor ?_ | refine bi_shr (by omega) (by decide) ?_ | refine bi_shl (by omega) (by decide) ?_ | refine bi_quo64 (by omega) ?_ | refine bi_rem64 (by omega) ?_ | refine bi_mul64 (by omega) ?_ | refine bi_neg ?_ | refine bi_un_xor32 ?_ | refine bi_add ?_ | refine bi_sub ?_ | refine bi_mul ?_ | refine bi_quo (by decide) ?_ | refine bi_rem (by decide) ?_)
    refine k _ c1 lo hc1 h1 (fun n => ?_) (by simpa using hlen) hT1
    rw [hget n, if_neg (by simp)]
  · intro key v w2 hk hg hm2 hT2 hent
    rw [getK_map Rp.val] at hg
    obtain ⟨m, hgm, rfl⟩ := Option.map_eq_some_iff.1 hg
    have hmem := getK_mem _ _ _ hgm
    have hm := hs.el _ hmem
    have hrb : r ≠ Co.br := fun e => by
      obtain ⟨es, cl, he, _⟩ := h1.map
      obtain ⟨_, _, _, _, _, _, _, _, _, _, h6, _⟩ := hm1
      rw [e, he] at h6
      cases h6
    have hrg : Co.gc ≠ r := fun e => by
      have := h1.blk
      obtain ⟨_, _, _, _, _, _, _, _, _, _, h6, _⟩ := hm1
      unfold Blk at this
      simp only at this
      rw [e, h6] at this
      cases this
    have hTw2 : Turns (fun j => j = Co.br ∨ j = r) w w2 := hT1.trans (hT2.mono fun j _ e => .inl (.inr e))
    have hm' : RpAt c xs w2 m := hm.turns hTw2 (fun j hj e => by
      rcases e with e | e
      · exact hx (by rw [← ho.huem, ← e]; exact hm.hue j hj)
      · subst e
        have := own_nem hm.own hs.map
        have hlt := hm.own.lt hj
        have hb := hm.own
        rcases hb.2 with ⟨h, _⟩ | ⟨g, cur, h, hbl, _⟩
        · rw [h] at hj; cases hj
        · rw [h] at hj
          have : g = j := by simpa [Value.ownBlock] using hj
          subst this
          obtain ⟨_, _, _, _, _, _, _, _, _, _, h6, _⟩ := hr
          unfold Blk at hbl
          rw [h6] at hbl
          cases hbl)
    have h2 : CliAt c1 x w2 ⟨Co.gc, Co.br, Co.fl, lo⟩ := ⟨h1.hue, h1.huem, h1.blk.turns hT2 hrg, h1.map.turns hT2 (fun e => hrb e.symm), fun p hp => (h1.el p hp).turns hT2 (fun j hj e => by
      subst e
      rcases (h1.el p hp).own.2 with ⟨h, _⟩ | ⟨g, cur, h, hbl, _⟩
      · rw [h] at hj; cases hj
      · rw [h] at hj
        have : g = j := by simpa [Value.ownBlock] using hj
        subst this
        obtain ⟨_, _, _, _, _, _, _, _, _, _, h6, _⟩ := hm1
        unfold Blk at hbl
        rw [h6] at hbl
        cases hbl)⟩
    (repeat with_reducible first | refine nck ?_ | refine cdT ?_ | refine cdF ?_ | refine gdY ?_ | refine gdFT ?_ | refine gdTF ?_ | refine gdU ?_ | refine gaY ?_ | refine gaFT ?_ | refine gaTF ?_ | refine pickT ?_ | refine pickF ?_ | refine bi_lss_t (by omega) ?_ | refine bi_lss_f (by omega) ?_ | refine bi_add64 (by omega) ?_ | refine bi_sub64 (by omega) ?_ | refine bi_eql_t (by omega) ?_ | refine bi_eql_f (by omega) ?_ | refine bi_neq_t (by omega) ?_ | refine bi_neq_f (by omega) ?_ | refine bi_gtr_t (by omega) ?_ | refine bi_gtr_f (by omega) ?_ | refine bi_leq_t (by omega) ?_ | refine bi_leq_f (by omega) ?_ | refine bi_geq_t (by omega) ?_ | refine bi_geq_f (by omega) ?_ | refine bi_xt0 ?_ | refine bi_xt1 ?_ | refine bi_xt2 ?_ | refine bi_xt3 ?_ | refine bi_T ?_ | refine bi_F ?_ | refine bi_not ?_ | refine bi_and ?_ | refine bi_or ?_ | refine bi_xor ?_ | refine bi_shr (by omega) (by decide) ?_ | refine bi_shl (by omega) (by decide) ?_ | refine bi_quo64 (by omega) ?_ | refine bi_rem64 (by omega) ?_ | refine bi_mul64 (by omega) ?_ | refine bi_neg ?_ | refine bi_un_xor32 ?_ | refine bi_add ?_ | refine bi_sub ?_ | refine bi_mul ?_ | refine bi_quo (by decide) ?_ | refine bi_rem (by decide) ?_)
    refine lift hent ?_
    (repeat with_reducible first | refine nck ?_ | refine cdT ?_ | refine cdF ?_ | refine gdY ?_ | refine gdFT ?_ | refine gdTF ?_ | refine gdU ?_ | refine gaY ?_ | refine gaFT ?_ | refine gaTF ?_ | refine pickT ?_ | refine pickF ?_ | refine bi_lss_t (by omega) ?_ | refine bi_lss_f (by omega) ?_ | refine bi_add64 (by omega) ?_ | refine bi_sub64 (by omega) ?_ | refine bi_eql_t (by omega) ?_ | refine bi_eql_f (by omega) ?_ | refine bi_neq_t (by omega) ?_ | refine bi_neq_f (by omega) ?_ | refine bi_gtr_t (by omega) ?_ | refine bi_gtr_f (by omega) ?_ | refine bi_leq_t (by omega) ?_ | refine bi_leq_f (by omega) ?_ | refine bi_geq_t (by omega) ?_ | refine bi_geq_f (by omega) ?_ | refine bi_xt0 ?_ | refine bi_xt1 ?_ | refine bi_xt2 ?_ | refine bi_xt3 ?_ | refine bi_T ?_ | refine bi_F ?_ | refine bi_not ?_ | refine bi_and ?_ | refine bi_or ?_ | refine bi_xor ?_ | refine bi_shr (by omega) (by decide) ?_ | refine bi_shl (by omega) (by decide) ?_ | refine bi_quo64 (by omega) ?_ | refine bi_rem64 (by omega) ?_ | refine bi_mul64 (by omega) ?_ | refine bi_neg ?_ | refine bi_un_xor32 ?_ | refine bi_add ?_ | refine bi_sub ?_ | refine bi_mul ?_ | refine bi_quo (by decide) ?_ | refine bi_rem (by decide) ?_)
    refine newRep hm'.one rfl ?_
    intro w3 hM3 hb3
    have h3 := h2.below hb3
    have hm3 := hm2.below hb3
    have hdr : Below w3.heap.size w3 w3.drew := (Below.refl _ _).drew
    have sm : ∀ w', (Blk w' Co.gc 68 #[.int .i64 Co.fl, .map (some Co.br)] ∧ Blk w' w2.heap.size 27 (m.R.cells m.p (.slice none 0 0))) → w'.cell? ⟨Co.gc, 1, none⟩ = some (.map (some Co.br)) := fun w' h => h.1.cell 1
    refine draw (fun w' => Blk w' Co.gc 68 #[.int .i64 Co.fl, .map (some Co.br)] ∧ Blk w' w2.heap.size 27 (m.R.cells m.p (.slice none 0 0))) ⟨h3.blk.below' hdr, hM3.below' hdr⟩ ?_
    (repeat with_reducible first | refine yfd k1 (by decide) ?_ | refine yl1 one66 sm ?_ | refine ynck ?_ | refine nck ?_ | refine cdT ?_ | refine cdF ?_ | refine gdY ?_ | refine gdFT ?_ | refine gdTF ?_ | refine gdU ?_ | refine gaY ?_ | refine gaFT ?_ | refine gaTF ?_ | refine pickT ?_ | refine pickF ?_ | refine yi_lss_t (by omega) ?_ | refine yi_lss_f (by omega) ?_ | refine yi_add64 (by omega) ?_ | refine yi_sub64 (by omega) ?_ | refine yi_eql_t (by omega) ?_ | refine yi_eql_f (by omega) ?_ | refine yi_neq_t (by omega) ?_ | refine yi_neq_f (by omega) ?_ | refine yi_gtr_t (by omega) ?_ | refine yi_gtr_f (by omega) ?_ | refine yi_leq_t (by omega) ?_ | refine yi_leq_f (by omega) ?_ | refine yi_geq_t (by omega) ?_ | refine yi_geq_f (by omega) ?_ | refine yi_xt0 ?_ | refine yi_xt1 ?_ | refine yi_xt2 ?_ | refine yi_xt3 ?_ | refine yi_T ?_ | refine yi_F ?_ | refine yi_not ?_ | refine yi_and ?_ | refine yi_or ?_ | refine yi_xor ?_ | refine yi_shr (by omega) (by decide) ?_ | refine yi_shl (by omega) (by decide) ?_ | refine yi_quo64 (by omega) ?_ | refine yi_rem64 (by omega) ?_ | refine yi_mul64 (by omega) ?_ | refine yi_neg ?_ | refine yi_un_xor32 ?_ | refine yi_add ?_ | refine yi_sub ?_ | refine yi_mul ?_ | refine yi_quo (by decide) ?_ | refine yi_rem (by decide) ?_)
    refine yldA agg27 (fun w' h => h.2) (by exact sz27) ?_
    refine act ?_
    have hb23 := below_then hb3 hdr
    refine (copied_spec m.R m.p _ m.vs w3.drew (keeps_Vals _ _ _ _ hb23 hm'.vals) rfl (by have := hm'.len; omega)).mono ?_
    rintro _ w4 ⟨p4, rfl, hop4, hfp4, hb4⟩
    have hb34 : Below w3.heap.size w3 w4 := below_then hdr hb4
    have hb24 : Below w2.heap.size w2 w4 := below_then hb3 hb34
    refine ⟨_, ⟨h3.blk.below' hb34, hM3.below' hb34⟩, fun _ h => h, ?_⟩
    have hs2 := hTw2.size
    have hs23 := hb3.size
    have h4 : CliAt (col c1 w2.heap.size x) x w4 ⟨Co.gc, Co.br, Co.fl, lo⟩ := (h2.re (col_lt c1 w2.heap.size x)).below hb24
    have hrp4 : RpAt (col c1 w2.heap.size x) x w4 ⟨m.R, p4, m.vs⟩ := ⟨hop4, fun b hb => col_ge _ _ _ (by have := hfp4 b hb; have := hb23.size; omega), hm'.ok, hm'.len⟩
    have hkw := hwf _ hmem
    refine mup und66 und3 h4.map (wf64 (by simp only at hkw; omega)) (by rw [List.length_map]; simp only [maxLen]; omega) ?_
    intro w5 hm5 hT5
    have hm5' : MapI w5 Co.br ((setK key (⟨m.R, p4, m.vs⟩ : Rp) lo).map fun p => (p.1, p.2.val)) := by
      rw [← setK_map Rp.val key ⟨m.R, p4, m.vs⟩]
      exact hm5
    have hnd := h4.nodup
    have hbk5 := h4.blk.turns hT5 hgb
    have h5 : CliAt (col c1 w2.heap.size x) x w5 ⟨Co.gc, Co.br, Co.fl, setK key ⟨m.R, p4, m.vs⟩ lo⟩ := by
      refine ⟨h4.hue, h4.huem, hbk5, hm5', fun p hp => ?_⟩
      rcases setK_mem' hnd hp with rfl | ⟨hp, _⟩
      · exact hrp4.turns hT5 (fun j hj e => own_nem hrp4.own h4.map (by rw [← e]; exact hj))
      · exact (h4.el p hp).turns hT5 (fun j hj e => own_nem (h4.el p hp).own h4.map (by rw [← e]; exact hj))
    have hT25 : Turns (fun j => j = Co.br ∨ j = r) w2 w5 := (Turns.of_below hb24).trans (hT5.mono fun j _ e => .inl (.inl e))
    refine hJ _ _ (filter_lt hk) ⟨_, col c1 w2.heap.size x, setK key ⟨m.R, p4, m.vs⟩ lo, rfl, fun j hj => by rw [col_lt _ _ _ _ (by omega), hc1 j hj], h5, fun n => ?_, ?_, (hm2.below hb24).turns hT5 (fun e => hbb e.symm) hrb, hTw2.trans (hT25.mono fun j _ e => .inl e)⟩
    · by_cases hn : n = key
      · subst hn
        rw [getK_setK_same, if_neg (by simp [List.mem_filter]), hgm]
        rfl
      · rw [getK_setK_other _ _ hn, hget n]
        have : (n ∈ todo.filter fun j => decide (j ≠ key)) ↔ n ∈ todo := by simp [List.mem_filter, hn]
        simp only [this]
    · have h1 := setK_len_le key (⟨m.R, p4, m.vs⟩ : Rp) lo
      have h2 := filter_lt hk
      omega
end Go.Proofs.Ytmnaggdhkggjhaa.E
/- Join: all clients of one table put into another. -/
namespace Go.Proofs.Ytmnaggdhkggjhaa.E
open Go Go.RowKit
set_option linter.unusedSimpArgs false
set_option linter.unusedVariables false

def ShowsO (o : Option Cli) (x : XC) : Prop := match o with
  | none => x = x0
  | some C => Shows C x
structure TabX (hu : Nat) (c : Nat → Nat) (w : World) (g : Nat) (X : Int → XC) (N B : Nat) : Prop where
  out : ∃ T, TabC hu c w g T ∧ T.length ≤ N ∧ (∀ p ∈ T, p.2.l.length ≤ B) ∧ ∀ id, ShowsO (getK id T) (X id)
theorem ptr_get {T : List (Int × Cli)} {k : Int} {v : Value} (h : getK k (T.map fun p => (p.1, Value.pointer (some ⟨p.2.gc, 0, none⟩))) = some v) : ∃ C, getK k T = some C ∧ v = .pointer (some ⟨C.gc, 0, none⟩) := by
  rw [getK_map (fun C : Cli => Value.pointer (some ⟨C.gc, 0, none⟩))] at h
  obtain ⟨C, h1, h2⟩ := Option.map_eq_some_iff.1 h
  exact ⟨C, h1, h2.symm⟩
theorem TabAt.nodup {hu : Nat} {c : Nat → Nat} {w : World} {g bm : Nat} {T : List (Int × Cli)} (h : TabAt hu c w g bm T) : (T.map (·.1)).Nodup := by
  have := h.map.nodup
  rwa [List.map_map] at this
theorem TabAt.keys {hu : Nat} {c : Nat → Nat} {w : World} {g bm : Nat} {T : List (Int × Cli)} (h : TabAt hu c w g bm T) {p : Int × Cli} (hp : p ∈ T) : 0 ≤ p.1 ∧ p.1 ≤ 9223372036854775807 := by
  refine ⟨(h.el p hp).1, ?_⟩
  obtain ⟨es, cl, _, _, _, _, h5⟩ := h.map
  have := h5 (p.1, .pointer (some ⟨p.2.gc, 0, none⟩)) (List.mem_map.2 ⟨p, hp, rfl⟩)
  simp [Lit.wf, IntKind.min, IntKind.max, IntKind.signed, IntKind.bits] at this
  omega
theorem iter_ne {w : World} {g : Nat} {t : TypeId} {cs : Array Value} {b r : Nat} {l : List (Int × Value)} {todo : List Int} (h : Blk w g t cs) (h' : MapR w b r l todo) : g ≠ r := by
  rintro rfl
  obtain ⟨_, _, _, _, _, _, _, _, _, _, h6, _⟩ := h'
  unfold Blk at h
  rw [h6] at h
  cases h
theorem iter_nem {w : World} {b r b' : Nat} {l l' : List (Int × Value)} {todo : List Int} (h : MapI w b' l') (h' : MapR w b r l todo) : b' ≠ r := by
  rintro rfl
  obtain ⟨_, _, _, _, _, _, _, _, _, _, h6, _⟩ := h'
  obtain ⟨es, cl, he, _⟩ := h
  rw [he] at h6
  cases h6
/-- A table that stands, in later colours. -/
theorem TabAt.on {hu : Nat} {c c' : Nat → Nat} {w w' : World} {g bm : Nat} {T : List (Int × Cli)} {F : Nat → Prop} (h : TabAt hu c w g bm T) (hT : Turns F w w') (hF : ∀ k, k < w.heap.size → F k → c k % 1000 ≠ hu) (hc : ∀ k, k < w.heap.size → c' k = c k) : TabAt hu c' w' g bm T :=
  (h.re hc).turns hT.cut fun k hk => by rw [hc k hk.2]; exact hF k hk.2 hk.1
theorem CliAt.on {x : Nat} {c c' : Nat → Nat} {w w' : World} {C : Cli} {F : Nat → Prop} (h : CliAt c x w C) (hT : Turns F w w') (hF : ∀ k, k < w.heap.size → F k → c k ≠ x) (hc : ∀ k, k < w.heap.size → c' k = c k) : CliAt c' x w' C :=
  (h.re hc).turns hT.cut fun k hk => by rw [hc k hk.2]; exact hF k hk.2 hk.1
theorem mergeAll {K : World → Prop} {ho hs : Nat} {c : Nat → Nat} {go gs bms r : Nat} {Ts : List (Int × Cli)} {w : World} {V : Int → VC} {X : Int → XC} {N B : Nat} (hsrc : TabAt hs c w gs bms Ts) (hsee : ∀ id, SeesO (getK id Ts) (V id)) (hgood : ∀ id, GoodV (V id))
    (hr : MapR w bms r (Ts.map fun p => (p.1, .pointer (some ⟨p.2.gc, 0, none⟩))) (Ts.map (·.1))) (hrz : c r = 0) (hX : TabX ho c w go X N B) (hX0 : ∀ id, 0 ≤ (X id).1) (hne : ho ≠ hs) (hN : N + Ts.length < 1000000) (hB : B ≤ 100)
    (k : ∀ w' c', (∀ j, j < w.heap.size → c' j = c j) → TabX ho c' w' go (fun id => overX (X id) (V id)) (N + Ts.length) (B + 4) → Turns (fun j => Dh ho c j ∨ j = r) w w' → K w') :
    LoopP (fun J_1 vs_1 w =>
      LiftP Try.prog (Instr.next (.pointer (some ⟨r, 0, none⟩)) false 0) (fun v29 w =>
      LiftP Try.prog (Instr.extract v29 0) (fun v30 w =>
      CondP v30 (fun w =>
        LiftP Try.prog (Instr.entry (.pointer (some ⟨r, 0, none⟩))) (fun v31 w =>
      LiftP Try.prog (Instr.extract v31 0) (fun v32 w =>
      LiftP Try.prog (Instr.extract v31 1) (fun v33 w =>
      CallP Try.prog 26 #[.pointer (some ⟨go, 0, none⟩), v32] (fun v36 w =>
      DrawP (fun S w =>
      YieldN Try.prog S (nilChk v36) (fun v39 w =>
      YieldP Try.prog S (Instr.fieldAt 68 v39 0) (fun v40 w =>
      YieldP Try.prog S (Instr.loadAt 3 v40) (fun v41 w =>
      YieldN Try.prog S (nilChk v33) (fun v43 w =>
      YieldP Try.prog S (Instr.fieldAt 68 v43 0) (fun v44 w =>
      YieldP Try.prog S (Instr.loadAt 3 v44) (fun v45 w =>
      YieldN Try.prog S (builtin Go.Builtin.max #[3, 3] 3 #[false, false] #[v41, v45]) (fun v46 w =>
      YieldN Try.prog S (nilChk v36) (fun v47 w =>
      YieldP Try.prog S (Instr.fieldAt 68 v47 0) (fun v48 w =>
      LiftU Try.prog (Instr.storeAt 3 v48 v46) (fun v_ w =>
      NextP Try.prog (nilChk v33) (fun v50 w =>
      LiftP Try.prog (Instr.fieldAt 68 v50 1) (fun v51 w =>
      LiftP Try.prog (Instr.loadAt 66 v51) (fun v52 w =>
      LiftP Try.prog (Instr.range 66 v52) (fun v53 w =>
      LoopP (fun J_2 vs_2 w =>
        LiftP Try.prog (Instr.next v53 false 0) (fun v54 w =>
        LiftP Try.prog (Instr.extract v54 0) (fun v55 w =>
        CondP v55 (fun w =>
          LiftP Try.prog (Instr.entry v53) (fun v56 w =>
        LiftP Try.prog (Instr.extract v56 0) (fun v57 w =>
        LiftP Try.prog (Instr.extract v56 1) (fun v58 w =>
        LiftP Try.prog (Instr.alloc 27 true (.tuple #[])) (fun v12 w =>
        LiftU Try.prog (Instr.storeAt 27 v12 v58) (fun v__1 w =>
        DrawP (fun S w =>
        YieldN Try.prog S (nilChk v36) (fun v60 w =>
        YieldP Try.prog S (Instr.fieldAt 68 v60 1) (fun v61 w =>
        YieldP Try.prog S (Instr.loadAt 66 v61) (fun v62 w =>
        YieldP Try.prog S (Instr.loadAt 27 v12) (fun v64 w =>
        ActP S (fun K w => CallP Try.prog 27 #[v64] K w) (fun S v65 w =>
        LiftU Try.prog (Instr.mapUpdate 66 v62 v57 v65) (fun v__2 w =>
        J_2 [] w) w) w) w) w) w) w) w) w) w) w) w) w) (fun w =>
          J_1 [] w) w) w) w) [] w) w) w) w) w) w) w) w) w) w) w) w) w) w) w) w) w) w) w) w) K w) w) w) [] w := by
  obtain ⟨T0, ⟨bm0, hT0⟩, hN0, hB0, hsh0⟩ := hX.out
  obtain ⟨hh1, hh2⟩ := hT0.hh
  obtain ⟨hs1, hs2⟩ := hsrc.hh
  refine LoopP.inv0n (fun n w' => ∃ (todo : List Int) (c' : Nat → Nat) (T : List (Int × Cli)), todo.length = n ∧ (∀ j, j < w.heap.size → c' j = c j) ∧ TabC ho c' w' go T ∧ T.length + todo.length ≤ N + Ts.length ∧ (∀ p ∈ T, p.2.l.length ≤ B + 4 ∧ (p.1 ∈ todo → p.2.l.length ≤ B)) ∧
      (∀ id, ShowsO (getK id T) (if id ∈ todo then X id else overX (X id) (V id))) ∧ MapR w' bms r (Ts.map fun p => (p.1, .pointer (some ⟨p.2.gc, 0, none⟩))) todo ∧ Turns (fun j => Dh ho c j ∨ j = r) w w') (Ts.map (·.1)).length
    ⟨Ts.map (·.1), c, T0, rfl, fun _ _ => rfl, ⟨bm0, hT0⟩, by simp; omega, fun p hp => ⟨by have := hB0 p hp; omega, fun _ => hB0 p hp⟩, fun id => ?_, hr, Turns.refl _ _⟩ ?_
  · split
    · exact hsh0 id
    · rename_i hn
      have h0 := hsee id
      have hnone : getK id Ts = none := getK_none_of id Ts fun p hp e => hn (List.mem_map.2 ⟨p, hp, e⟩)
      rw [hnone] at h0
      have hv : V id = (0, []) := h0
      rw [hv, overX_none _ (hX0 id)]
      exact hsh0 id
  rintro n w1 ⟨todo, c1, T, rfl, hc1, ⟨bm, hT⟩, hlen, hBs, hsh, hm1, hT1⟩ J hJ
  refine nxt hm1 (fun e => ?_) ?_
  · subst e
    (repeat with_reducible first | refine nck ?_ | refine cdT ?_ | refine cdF ?_ | refine gdY ?_ | refine gdFT ?_ | refine gdTF ?_ | refine gdU ?_ | refine gaY ?_ | refine gaFT ?_ | refine gaTF ?_ | refine pickT ?_ | refine pickF ?_ | refine bi_lss_t (by omega) ?_ | refine bi_lss_f (by omega) ?_ | refine bi_add64 (by omega) ?_ | refine bi_sub64 (by omega) ?_ | refine bi_eql_t (by omega) ?_ | refine bi_eql_f (by omega) ?_ | refine bi_neq_t (by omega) ?_ | refine bi_neq_f (by omega) ?_ | refine bi_gtr_t (by omega) ?_ | refine bi_gtr_f (by omega) ?_ | refine bi_leq_t (by omega) ?_ | refine bi_leq_f (by omega) ?_ | refine bi_geq_t (by omega) ?_ | refine bi_geq_f (by omega) ?_ | refine bi_xt0 ?_ | refine bi_xt1 ?_ | refine bi_xt2 ?_ | refine bi_xt3 ?_ | refine bi_T ?_ | refine bi_F ?_ | refine bi_not ?_ | refine bi_and ?_ | refine bi_or ?_ | refine bi_xor ?_ | refine bi_shr (by omega) (by decide) ?_ | refine bi_shl (by omega) (by decide) ?_ | refine bi_quo64 (by omega) ?_ | refine bi_rem64 (by omega) ?_ | refine bi_mul64 (by omega) ?_ | refine bi_neg ?_ | refine bi_un_xor32 ?_ | refine bi_add ?_ | refine bi_sub ?_ | refine bi_mul ?_ | refine bi_quo (by decide) ?_ | refine bi_rem (by decide) ?_)
    refine k _ c1 hc1 ⟨T, ⟨bm, hT⟩, by simpa using hlen, fun p hp => (hBs p hp).1, fun id => ?_⟩ hT1
    have := hsh id
    rwa [if_neg (by simp)] at this
  · intro id v w2 hid hg hm2 hT2 hent
    obtain ⟨Cs, hgs, rfl⟩ := ptr_get hg
    have hms := getK_mem _ _ _ hgs
    have hTw2 : Turns (fun j => Dh ho c j ∨ j = r) w w2 := hT1.trans (hT2.mono fun j _ e => .inl (.inr e))
    have hsz2 := hTw2.size
    have hsrc2 : TabAt hs c w2 gs bms Ts := hsrc.turns hTw2 (fun j hj => by
      rcases hj with h | h
      · rw [h]; exact hne
      · rw [h, hrz]; omega)
    have hidr := hsrc.keys hms
    have hrl := hr.ltr
    have hT2o : TabAt ho c1 w2 go bm T := hT.turns hT2 (fun j hj => by rw [hj, hc1 r hrl, hrz]; omega)
    (repeat with_reducible first | refine nck ?_ | refine cdT ?_ | refine cdF ?_ | refine gdY ?_ | refine gdFT ?_ | refine gdTF ?_ | refine gdU ?_ | refine gaY ?_ | refine gaFT ?_ | refine gaTF ?_ | refine pickT ?_ | refine pickF ?_ | refine bi_lss_t (by omega) ?_ | refine bi_lss_f (by omega) ?_ | refine bi_add64 (by omega) ?_ | refine bi_sub64 (by omega) ?_ | refine bi_eql_t (by omega) ?_ | refine bi_eql_f (by omega) ?_ | refine bi_neq_t (by omega) ?_ | refine bi_neq_f (by omega) ?_ | refine bi_gtr_t (by omega) ?_ | refine bi_gtr_f (by omega) ?_ | refine bi_leq_t (by omega) ?_ | refine bi_leq_f (by omega) ?_ | refine bi_geq_t (by omega) ?_ | refine bi_geq_f (by omega) ?_ | refine bi_xt0 ?_ | refine bi_xt1 ?_ | refine bi_xt2 ?_ | refine bi_xt3 ?_ | refine bi_T ?_ | refine bi_F ?_ | refine bi_not ?_ | refine bi_and ?_ | refine bi_or ?_ | refine bi_xor ?_ | refine bi_shr (by omega) (by decide) ?_ | refine bi_shl (by omega) (by decide) ?_ | refine bi_quo64 (by omega) ?_ | refine bi_rem64 (by omega) ?_ | refine bi_mul64 (by omega) ?_ | refine bi_neg ?_ | refine bi_un_xor32 ?_ | refine bi_add ?_ | refine bi_sub ?_ | refine bi_mul ?_ | refine bi_quo (by decide) ?_ | refine bi_rem (by decide) ?_)
    refine lift hent ?_
    (repeat with_reducible first | refine nck ?_ | refine cdT ?_ | refine cdF ?_ | refine gdY ?_ | refine gdFT ?_ | refine gdTF ?_ | refine gdU ?_ | refine gaY ?_ | refine gaFT ?_ | refine gaTF ?_ | refine pickT ?_ | refine pickF ?_ | refine bi_lss_t (by omega) ?_ | refine bi_lss_f (by omega) ?_ | refine bi_add64 (by omega) ?_ | refine bi_sub64 (by omega) ?_ | refine bi_eql_t (by omega) ?_ | refine bi_eql_f (by omega) ?_ | refine bi_neq_t (by omega) ?_ | refine bi_neq_f (by omega) ?_ | refine bi_gtr_t (by omega) ?_ | refine bi_gtr_f (by omega) ?_ | refine bi_leq_t (by omega) ?_ | refine bi_leq_f (by omega) ?_ | refine bi_geq_t (by omega) ?_ | refine bi_geq_f (by omega) ?_ | refine bi_xt0 ?_ | refine bi_xt1 ?_ | refine bi_xt2 ?_ | refine bi_xt3 ?_ | refine bi_T ?_ | refine bi_F ?_ | refine bi_not ?_ | refine bi_and ?_ | refine bi_or ?_ | refine bi_xor ?_ | refine bi_shr (by omega) (by decide) ?_ | refine bi_shl (by omega) (by decide) ?_ | refine bi_quo64 (by omega) ?_ | refine bi_rem64 (by omega) ?_ | refine bi_mul64 (by omega) ?_ | refine bi_neg ?_ | refine bi_un_xor32 ?_ | refine bi_add ?_ | refine bi_sub ?_ | refine bi_mul ?_ | refine bi_quo (by decide) ?_ | refine bi_rem (by decide) ?_)
    refine (client_tab c1 w2 go T id ⟨bm, hT2o⟩ hidr (by omega)).mono ?_
    rintro _ w3 ⟨C, T', rfl, hx, hT', c3, hc3, ⟨bm', h3⟩, hT3⟩
    have hsz3 := hT3.size
    have hCo := (h3.el _ (getK_mem _ _ _ hx)).2
    simp only at hCo
    have hT13 : Turns (fun j => Dh ho c j ∨ j = r) w w3 := hTw2.trans (hT3.mono fun j hj e => by
      rcases Nat.lt_or_ge j w.heap.size with hlt | hge
      · exact .inl (.inl (by rw [Dh, ← hc1 j hlt]; exact e))
      · exact .inr hge)
    have hc3w : ∀ j, j < w.heap.size → c3 j = c j := fun j hj => by rw [hc3 j (by omega), hc1 j hj]
    have hrF : ∀ j, j < w.heap.size → (Dh ho c j ∨ j = r) → c j % 1000 ≠ hs := fun j _ hj => by
      rcases hj with h | h
      · rw [h]; exact hne
      · rw [h, hrz]; omega
    have hsrc3 : TabAt hs c3 w3 gs bms Ts := hsrc.on hT13 hrF hc3w
    have hCs := (hsrc3.el _ hms).2
    simp only at hCs
    have hm3 := hm2.turns hT3 (fun e => by
      rw [Dh, hc1 bms hr.ltb, hsrc.huem] at e; omega) (fun e => by rw [Dh, hc1 r hrl, hrz] at e; omega)
    have hXid : Shows C (X id) := by
      have h0 := hsh id
      rw [if_pos hid] at h0
      cases hg0 : getK id T with
      | none =>
        rw [hg0] at hT' h0
        have hx0 : X id = x0 := h0
        rw [hx0]
        exact ⟨hT'.2.1, fun n => by rw [hT'.2.2]; rfl⟩
      | some C0 =>
        rw [hg0] at hT' h0
        rw [hT'.2]; exact h0
    have hsCs : Sees Cs (V id) := by
      have := hsee id
      rw [hgs] at this
      exact this
    have hgcne : C.gc ≠ Cs.gc := fun e => by
      have h1 := hCo.hue
      have h2 := hCs.hue
      rw [e] at h1
      have := congrArg (· % 1000) (h1.symm.trans h2)
      simp only [hueC_mod hh2, hueC_mod hs2] at this
      exact hne this
    have hdr : Below w3.heap.size w3 w3.drew := (Below.refl _ _).drew
    have e1 : ∀ w', (Blk w' C.gc 68 #[.int .i64 C.fl, .map (some C.br)] ∧ Blk w' Cs.gc 68 #[.int .i64 Cs.fl, .map (some Cs.br)]) → w'.cell? ⟨C.gc, 0, none⟩ = some (.int .i64 C.fl) := fun w' h => h.1.cell 0
    have e2 : ∀ w', (Blk w' C.gc 68 #[.int .i64 C.fl, .map (some C.br)] ∧ Blk w' Cs.gc 68 #[.int .i64 Cs.fl, .map (some Cs.br)]) → w'.cell? ⟨Cs.gc, 0, none⟩ = some (.int .i64 Cs.fl) := fun w' h => h.2.cell 0
    refine draw (fun w' => Blk w' C.gc 68 #[.int .i64 C.fl, .map (some C.br)] ∧ Blk w' Cs.gc 68 #[.int .i64 Cs.fl, .map (some Cs.br)]) ⟨hCo.blk.below' hdr, hCs.blk.below' hdr⟩ ?_
    (repeat with_reducible first | refine yfd k0 (by decide) ?_ | refine yl1 one3 e1 ?_ | refine yl1 one3 e2 ?_ | refine ymx ?_ | refine ynck ?_ | refine nck ?_ | refine cdT ?_ | refine cdF ?_ | refine gdY ?_ | refine gdFT ?_ | refine gdTF ?_ | refine gdU ?_ | refine gaY ?_ | refine gaFT ?_ | refine gaTF ?_ | refine pickT ?_ | refine pickF ?_ | refine yi_lss_t (by omega) ?_ | refine yi_lss_f (by omega) ?_ | refine yi_add64 (by omega) ?_ | refine yi_sub64 (by omega) ?_ | refine yi_eql_t (by omega) ?_ | refine yi_eql_f (by omega) ?_ | refine yi_neq_t (by omega) ?_ | refine yi_neq_f (by omega) ?_ | refine yi_gtr_t (by omega) ?_ | refine yi_gtr_f (by omega) ?_ | refine yi_leq_t (by omega) ?_ | refine yi_leq_f (by omega) ?_ | refine yi_geq_t (by omega) ?_ | refine yi_geq_f (by omega) ?_ | refine yi_xt0 ?_ | refine yi_xt1 ?_ | refine yi_xt2 ?_ | refine yi_xt3 ?_ | refine yi_T ?_ | refine yi_F ?_ | refine yi_not ?_ | refine yi_and ?_ | refine yi_or ?_ | refine yi_xor ?_ | refine yi_shr (by omega) (by decide) ?_ | refine yi_shl (by omega) (by decide) ?_ | refine yi_quo64 (by omega) ?_ | refine yi_rem64 (by omega) ?_ | refine yi_mul64 (by omega) ?_ | refine yi_neg ?_ | refine yi_un_xor32 ?_ | refine yi_add ?_ | refine yi_sub ?_ | refine yi_mul ?_ | refine yi_quo (by decide) ?_ | refine yi_rem (by decide) ?_)
    have hCo4 := hCo.below hdr
    refine st sz3 rfl (by rw [hCo4.blk.cell 0]; rfl) (hCo4.blk.frozen 0) ?_
    have hT4 := Turns.setCell (F := fun j => j = C.gc) (p := ⟨C.gc, 0, none⟩) (Turns.refl _ w3.drew) (.inl rfl) (.int .i64 (max C.fl Cs.fl))
    have hgb4 : C.gc ≠ C.br := map_ne hCo4.blk hCo4.map
    have hC5 : CliAt c3 (hueC ho id) (w3.drew.setCell ⟨C.gc, 0, none⟩ (.int .i64 (max C.fl Cs.fl))) ⟨C.gc, C.br, max C.fl Cs.fl, C.l⟩ :=
      ⟨hCo4.hue, hCo4.huem, hCo4.blk.set_ 0 _, hCo4.map.turns hT4 (fun e => hgb4 e.symm), fun p hp => (hCo4.el p hp).turns hT4 (fun j hj e => own_ne (hCo4.el p hp).own hCo4.blk (by decide) (by rw [← e]; exact hj))⟩
    have hT35 : Turns (fun j => j = C.gc) w3 (w3.drew.setCell ⟨C.gc, 0, none⟩ (.int .i64 (max C.fl Cs.fl))) := (Turns.of_below hdr).trans (hT4.mono fun j _ e => .inl e)
    generalize w3.drew.setCell ⟨C.gc, 0, none⟩ (.int .i64 (max C.fl Cs.fl)) = w5 at *
    have hueNe : hueC ho id ≠ hueC hs id := fun e => by
      have := congrArg (· % 1000) e
      simp only [hueC_mod hh2, hueC_mod hs2] at this
      exact hne this
    have hCs5 : CliAt c3 (hueC hs id) w5 Cs := hCs.turns hT35 (fun j hj e => hueNe (by rw [← hCo.hue, ← hj]; exact e))
    have hm5 := hm3.turns hT35 (fun e => map_ne hCo.blk hsrc3.map e.symm) (fun e => iter_ne hCo.blk hm3 e.symm)
    have f1 : w5.cell? ⟨Cs.gc, 1, none⟩ = some (.map (some Cs.br)) := hCs5.blk.cell 1
    (repeat with_reducible first | refine fd k1 (by decide) ?_ | refine ld one66 f1 ?_ | refine nck ?_ | refine cdT ?_ | refine cdF ?_ | refine gdY ?_ | refine gdFT ?_ | refine gdTF ?_ | refine gdU ?_ | refine gaY ?_ | refine gaFT ?_ | refine gaTF ?_ | refine pickT ?_ | refine pickF ?_ | refine bi_lss_t (by omega) ?_ | refine bi_lss_f (by omega) ?_ | refine bi_add64 (by omega) ?_ | refine bi_sub64 (by omega) ?_ | refine bi_eql_t (by omega) ?_ | refine bi_eql_f (by omega) ?_ | refine bi_neq_t (by omega) ?_ | refine bi_neq_f (by omega) ?_ | refine bi_gtr_t (by omega) ?_ | refine bi_gtr_f (by omega) ?_ | refine bi_leq_t (by omega) ?_ | refine bi_leq_f (by omega) ?_ | refine bi_geq_t (by omega) ?_ | refine bi_geq_f (by omega) ?_ | refine bi_xt0 ?_ | refine bi_xt1 ?_ | refine bi_xt2 ?_ | refine bi_xt3 ?_ | refine bi_T ?_ | refine bi_F ?_ | refine bi_not ?_ | refine bi_and ?_ | refine bi_or ?_ | refine bi_xor ?_ | refine bi_shr (by omega) (by decide) ?_ | refine bi_shl (by omega) (by decide) ?_ | refine bi_quo64 (by omega) ?_ | refine bi_rem64 (by omega) ?_ | refine bi_mul64 (by omega) ?_ | refine bi_neg ?_ | refine bi_un_xor32 ?_ | refine bi_add ?_ | refine bi_sub ?_ | refine bi_mul ?_ | refine bi_quo (by decide) ?_ | refine bi_rem (by decide) ?_)
    refine rng und66 hCs5.map ?_
    intro w6 hm6 hb6
    have hr6 : (Cs.l.map fun p => (p.1, p.2.val)).map (·.1) = Cs.l.map (·.1) := by rw [List.map_map]; rfl
    rw [hr6] at hm6
    have hsz35 := hT35.size
    have hlC : C.l.length ≤ B := by
      cases hg0 : getK id T with
      | none => rw [hg0] at hT'; rw [hT'.2.2]; simp
      | some C0 =>
        rw [hg0] at hT'
        rw [hT'.2]
        exact (hBs _ (getK_mem _ _ _ hg0)).2 hid
    have hlCs : Cs.l.length ≤ 4 := by
      have := hsCs.l.length_eq
      have h4 := (hgood id).len
      simp only [absL, List.length_map] at this
      omega
    have hwf : ∀ p ∈ Cs.l, 0 ≤ p.1 ∧ p.1 ≤ 1099511627776 := fun p hp => by
      have : p.1 ∈ Cs.l.map (·.1) := List.mem_map.2 ⟨p, hp, rfl⟩
      rw [hsCs.keys.mem_iff] at this
      obtain ⟨q, hq, he⟩ := List.mem_map.1 this
      have := (hgood id).key q hq
      omega
    refine copyAll (Co := ⟨C.gc, C.br, max C.fl Cs.fl, C.l⟩) (hC5.below hb6) (hCs5.below hb6) hueNe hm6 (by simp only; omega) (by omega) hwf ?_
    intro w7 c7 lo hc7 h7 hget hlo hT7
    have hsz6 := hb6.size
    have hT37 : Turns (fun j => j = C.gc ∨ j = C.br) w3 w7 := ((hT35.mono fun j _ e => .inl e).trans (Turns.of_below hb6)).trans (hT7.mono fun j _ e => by
      rcases e with e | e
      · exact .inl (.inr e)
      · exact .inr (by rw [e]; omega))
    have hc37 : ∀ j, j < w3.heap.size → c7 j = c3 j := fun j hj => hc7 j (by omega)
    have hup : TabAt ho c7 w7 go bm' (setK id ⟨C.gc, C.br, max C.fl Cs.fl, lo⟩ T') := (h3.re hc37).upd hx hT37.cut (fun j hj => by
      rw [hc37 j hj.2]
      rcases hj.1 with e | e
      · rw [e]; exact hCo.hue
      · rw [e]; exact hCo.huem) h7 rfl
    have hT17 : Turns (fun j => Dh ho c j ∨ j = r) w w7 := hT13.trans (hT37.mono fun j hj e => by
      rcases Nat.lt_or_ge j w.heap.size with hlt | hge
      · refine .inl (.inl ?_)
        rw [Dh, ← hc3w j hlt]
        rcases e with e | e
        · rw [e, hCo.hue, hueC_mod hh2]
        · rw [e, hCo.huem, hueC_mod hh2]
      · exact .inr hge)
    have hm7 := hm3.turns hT37 (fun e => by
      rcases e with e | e
      · exact map_ne hCo.blk hsrc3.map e.symm
      · have h1 := hCo.huem
        rw [← e, hsrc3.huem] at h1
        exact hueC_ne hs id (by
          have := congrArg (· % 1000) h1
          simp only [hueC_mod hh2, Nat.mod_eq_of_lt hs2] at this
          exact absurd this.symm hne)) (fun e => by
      rcases e with e | e
      · exact iter_ne hCo.blk hm3 e.symm
      · exact iter_nem hCo.map hm3 e.symm)
    have hndT' := h3.nodup
    have hkeysT' : T'.length ≤ T.length + 1 := by
      cases hg0 : getK id T with
      | none => rw [hg0] at hT'; rw [hT'.1]; simp
      | some C0 => rw [hg0] at hT'; rw [hT'.1]; omega
    have hfl := filter_lt hid
    refine hJ _ _ hfl ⟨_, c7, setK id ⟨C.gc, C.br, max C.fl Cs.fl, lo⟩ T', rfl, fun j hj => by rw [hc37 j (by omega), hc3w j hj], ⟨bm', hup⟩, ?_, fun p hp => ?_, fun i => ?_, hm7, hT17⟩
    · rw [setK_len hx]; omega
    · rcases setK_mem' hndT' hp with rfl | ⟨hp, hpn⟩
      · simp only at hlo
        exact ⟨by simp only; omega, fun h => absurd h (by simp [List.mem_filter])⟩
      · have hpT : p ∈ T := by
          cases hg0 : getK id T with
          | none =>
            rw [hg0] at hT'
            rw [hT'.1] at hp
            rcases List.mem_append.1 hp with hp | hp
            · exact hp
            · simp only [List.mem_cons, List.not_mem_nil, or_false] at hp
              subst hp
              exact absurd rfl hpn
          | some C0 => rw [hg0] at hT'; rw [hT'.1] at hp; exact hp
        exact ⟨(hBs p hpT).1, fun h => (hBs p hpT).2 ((List.mem_filter.1 h).1)⟩
    · by_cases hi : i = id
      · subst hi
        rw [getK_setK_same, if_neg (by simp [List.mem_filter])]
        refine ⟨?_, fun n => ?_⟩
        · show max C.fl Cs.fl = max (X i).1 (V i).1
          rw [hXid.fl, hsCs.fl]
        · show (getK n lo).map Rp.abs = (getK n (V i).2).or ((X i).2 n)
          rw [hget n, hsCs.get (hgood i) n, hXid.get n]
      · rw [getK_setK_other _ _ hi]
        have hgi : getK i T' = getK i T := by
          cases hg0 : getK id T with
          | none => rw [hg0] at hT'; rw [hT'.1, getK_app_other _ _ hi]
          | some C0 => rw [hg0] at hT'; rw [hT'.1]
        rw [hgi]
        have h0 := hsh i
        have : (i ∈ todo.filter fun j => decide (j ≠ id)) ↔ i ∈ todo := by simp [List.mem_filter, hi]
        simp only [this]
        exact h0
end Go.Proofs.Ytmnaggdhkggjhaa.E
/- Two views joined. -/
namespace Go.Proofs.Ytmnaggdhkggjhaa.E
open Go Go.RowKit
set_option linter.unusedSimpArgs false
set_option linter.unusedVariables false

theorem getK_some_of {α : Type} {k : Int} {v : α} {l : List (Int × α)} (hr : Rising l) (h : (k, v) ∈ l) : getK k l = some v := getK_of_mem hr.nodup h
theorem rising_ext {α : Type} : ∀ (l l' : List (Int × α)), Rising l → Rising l' → (∀ n, getK n l = getK n l') → l = l'
  | [], [], _, _, _ => rfl
  | [], (a, v) :: r, _, _, h => by have := h a; simp [getK] at this
  | (a, v) :: r, [], _, _, h => by have := h a; simp [getK] at this
  | (a, v) :: r, (b, u) :: s, h1, h2, h => by
    obtain ⟨p1, p2⟩ := List.pairwise_cons.1 h1
    obtain ⟨q1, q2⟩ := List.pairwise_cons.1 h2
    have hab : a = b := by
      rcases Int.lt_trichotomy a b with hlt | he | hgt
      · have := h a
        rw [getK_none_of a ((b, u) :: s) fun p hp e => by
          rcases List.mem_cons.1 hp with rfl | hp
          · simp only at e; omega
          · have := q1 p hp; simp only at this; omega] at this
        simp [getK] at this
      · exact he
      · have := h b
        rw [getK_none_of b ((a, v) :: r) fun p hp e => by
          rcases List.mem_cons.1 hp with rfl | hp
          · simp only at e; omega
          · have := p1 p hp; simp only at this; omega] at this
        simp [getK] at this
    subst hab
    have hvu : v = u := by have := h a; simpa [getK] using this
    subst hvu
    rw [rising_ext r s p2 q2 fun n => ?_]
    by_cases hn : n = a
    · subst hn
      rw [getK_none_of n r fun p hp e => by have := p1 p hp; simp only at this; omega, getK_none_of n s fun p hp e => by have := q1 p hp; simp only at this; omega]
    · have := h n
      simpa [getK, hn] using this
def canon {α : Type} (l : List (Int × α)) : List (Int × α) := l.foldr (fun p acc => insK p.1 p.2 acc) []
theorem canon_perm {α : Type} : ∀ l : List (Int × α), (canon l).Perm l
  | [] => List.Perm.refl _
  | p :: r => (insK_perm p.1 p.2 (canon r)).trans ((canon_perm r).cons p)
theorem canon_rising {α : Type} : ∀ l : List (Int × α), (l.map (·.1)).Nodup → Rising (canon l)
  | [], _ => List.Pairwise.nil
  | p :: r, h => by
    simp only [List.map_cons, List.nodup_cons] at h
    refine insK_rising p.1 p.2 _ (canon_rising r h.2) fun q hq e => h.1 ?_
    exact List.mem_map.2 ⟨q, (canon_perm r).mem_iff.1 hq, e⟩
theorem getK_canon {α : Type} {l : List (Int × α)} (h : (l.map (·.1)).Nodup) (n : Int) : getK n (canon l) = getK n l := getK_perm (canon_perm l) h n
theorem getK_append {α : Type} (n : Int) (b : List (Int × α)) : ∀ a : List (Int × α), getK n (a ++ b) = (getK n a).or (getK n b)
  | [] => by simp [getK]
  | (x, v) :: r => by
    rw [List.cons_append, getK, getK]
    split
    · rfl
    · exact getK_append n b r
def lack {α : Type} (la lb : List (Int × α)) : List (Int × α) := lb.filter fun p => (getK p.1 la).isNone
theorem getK_filter {α : Type} {q : Int → Bool} {n : Int} (hq : q n = true) : ∀ l : List (Int × α), getK n (l.filter fun p => q p.1) = getK n l
  | [] => rfl
  | (a, v) :: r => by
    rw [List.filter_cons]
    by_cases h : n = a
    · subst h
      simp only [hq, if_true, getK]
    · split
      · rw [getK, getK, if_neg h, if_neg h, getK_filter hq r]
      · rw [getK, if_neg h, getK_filter hq r]
def mergeR {α : Type} (la lb : List (Int × α)) : List (Int × α) := canon (la ++ lack la lb)
theorem merge_nodup {α : Type} {la lb : List (Int × α)} (ha : Rising la) (hb : Rising lb) : ((la ++ lack la lb).map (·.1)).Nodup := by
  rw [List.map_append]
  refine List.nodup_append.2 ⟨ha.nodup, (List.Sublist.map _ List.filter_sublist).nodup hb.nodup, fun x hx y hy e => ?_⟩
  obtain ⟨p, hp, rfl⟩ := List.mem_map.1 hx
  obtain ⟨q, hq, rfl⟩ := List.mem_map.1 hy
  have h1 := (List.mem_filter.1 hq).2
  rw [← e, getK_some_of ha (show (p.1, p.2) ∈ la from hp)] at h1
  simp at h1
theorem mergeR_rising {α : Type} {la lb : List (Int × α)} (ha : Rising la) (hb : Rising lb) : Rising (mergeR la lb) := canon_rising _ (merge_nodup ha hb)
theorem mergeR_get {α : Type} {la lb : List (Int × α)} (ha : Rising la) (hb : Rising lb) (n : Int) : getK n (mergeR la lb) = (getK n la).or (getK n lb) := by
  rw [mergeR, getK_canon (merge_nodup ha hb), getK_append]
  cases h : getK n la with
  | some v => rfl
  | none =>
    simp only [Option.none_or]
    exact getK_filter (q := fun x => (getK x la).isNone) (by rw [h]; rfl) lb
theorem mergeR_mem {α : Type} {la lb : List (Int × α)} {p : Int × α} (h : p ∈ mergeR la lb) : p ∈ la ∨ p ∈ lb := by
  have := (canon_perm _).mem_iff.1 h
  rcases List.mem_append.1 this with h | h
  · exact .inl h
  · exact .inr (List.mem_filter.1 h).1
/-- All that is too much is forgotten. -/
def cutR : Int → List (Int × Rm) → VC
  | fl, [] => (fl, [])
  | fl, p :: r => if 4 < (p :: r).length then cutR p.1 r else (fl, p :: r)
theorem cutR_good : ∀ (l : List (Int × Rm)) (fl : Int), Rising l → (∀ p ∈ l, fl < p.1) → (∀ p ∈ l, ∀ x ∈ p.2.2, valOk x) → (∀ p ∈ l, 1 ≤ p.1 ∧ p.1 ≤ 1099511627776) → (0 ≤ fl ∧ fl ≤ 1099511627776) → GoodV (cutR fl l)
  | [], fl, h1, h2, h3, h4, h5 => ⟨List.Pairwise.nil, by simp [cutR], fun p hp => by simp [cutR] at hp, fun p hp => by simp [cutR] at hp, fun p hp => by simp [cutR] at hp, h5⟩
  | p :: r, fl, h1, h2, h3, h4, h5 => by
    rw [cutR]
    split
    · obtain ⟨g1, g2⟩ := List.pairwise_cons.1 h1
      have := h4 p (by simp)
      exact cutR_good r p.1 g2 (fun q hq => g1 q hq) (fun q hq => h3 q (by simp [hq])) (fun q hq => h4 q (by simp [hq])) (by omega)
    · rename_i h
      exact ⟨h1, by simp only; omega, h2, h3, h4, h5⟩
theorem shrink_cut (gc br : Nat) : ∀ (n : Nat) (fl : Int) (L : List (Int × Rp)) (m : List (Int × Rm)), L.length ≤ n → (absL L).Perm m → Rising m → Sees ⟨gc, br, (shrink n fl L).1, (shrink n fl L).2⟩ (cutR fl m)
  | 0, fl, L, m, hl, hp, hr => by
    have hL : L = [] := List.eq_nil_of_length_eq_zero (by omega)
    subst hL
    have hm : m = [] := List.eq_nil_of_length_eq_zero (by rw [← hp.length_eq]; rfl)
    subst hm
    exact ⟨rfl, List.Perm.refl _⟩
  | n + 1, fl, L, m, hl, hp, hr => by
    have hlen : L.length = m.length := by have := hp.length_eq; simpa [absL] using this
    rw [shrink]
    cases m with
    | nil =>
      rw [if_neg (by rw [hlen]; simp)]
      exact ⟨rfl, hp⟩
    | cons p r =>
      rw [cutR, ← hlen]
      split
      · rename_i h4
        have hk : minK L = p.1 := minK_head (l := L) (p := p) (r := r) (by have := hp.map (·.1); rwa [absL_keys] at this) hr
        have hnd : (L.map (·.1)).Nodup := by
          have := (hp.map (·.1)).symm.nodup hr.nodup
          rwa [absL_keys] at this
        have hd : (absL (delK p.1 L)).Perm r := by
          unfold absL
          rw [← delK_map Rp.abs]
          exact perm_filter_tail hp hr (by have := absL_keys L; unfold absL at this; rw [this]; exact hnd)
        have hdl : (delK p.1 L).length ≤ n := by
          have := hd.length_eq
          simp only [absL, List.length_map, List.length_cons] at this hlen
          omega
        rw [hk]
        exact shrink_cut gc br n p.1 _ r hdl hd (List.pairwise_cons.1 hr).2
      · exact ⟨rfl, hp⟩
def joinV (va vb : VC) : VC := cutR (max va.1 vb.1) ((mergeR va.2 vb.2).filter fun p => decide (max va.1 vb.1 < p.1))
theorem Rising.filter {α : Type} {l : List (Int × α)} (h : Rising l) (q : Int × α → Bool) : Rising (l.filter q) := List.Pairwise.sublist List.filter_sublist h
theorem joinV_good {va vb : VC} (ha : GoodV va) (hb : GoodV vb) : GoodV (joinV va vb) := by
  have hm : ∀ p ∈ (mergeR va.2 vb.2).filter (fun p => decide (max va.1 vb.1 < p.1)), p ∈ va.2 ∨ p ∈ vb.2 := fun p hp => mergeR_mem (List.mem_filter.1 hp).1
  have h1 := ha.fl
  have h2 := hb.fl
  refine cutR_good _ _ ((mergeR_rising ha.rise hb.rise).filter _) (fun p hp => by simpa using (List.mem_filter.1 hp).2) (fun p hp => ?_) (fun p hp => ?_) (by omega)
  · rcases hm p hp with h | h
    · exact ha.ok p h
    · exact hb.ok p h
  · rcases hm p hp with h | h
    · exact ha.key p h
    · exact hb.key p h
theorem joinX {va vb : VC} (ha : GoodV va) (hb : GoodV vb) : overX (overX x0 vb) va = (max va.1 vb.1, fun n => getK n (mergeR va.2 vb.2)) := by
  unfold overX x0
  have h1 := ha.fl
  have h2 := hb.fl
  refine Prod.ext ?_ ?_
  · simp only; omega
  · funext n
    simp only
    rw [mergeR_get ha.rise hb.rise, Option.or_none]
/-- A client that shows both, trimmed. -/
theorem Shows.trim {C : Cli} {va vb : VC} (ha : GoodV va) (hb : GoodV vb) (h : Shows C (overX (overX x0 vb) va)) (hn : (C.l.map (·.1)).Nodup) (gc br : Nat) :
    Sees ⟨gc, br, (trimP C.fl C.l).1, (trimP C.fl C.l).2⟩ (joinV va vb) := by
  rw [joinX ha hb] at h
  have hfl : C.fl = max va.1 vb.1 := h.fl
  have hnA : ((absL C.l).map (·.1)).Nodup := by rw [absL_keys]; exact hn
  have hc : canon (absL C.l) = mergeR va.2 vb.2 := by
    refine rising_ext _ _ (canon_rising _ hnA) (mergeR_rising ha.rise hb.rise) fun n => ?_
    rw [getK_canon hnA, absL, getK_map Rp.abs]
    exact h.get n
  have hp : (absL (C.l.filter fun p => decide (C.fl < p.1))).Perm ((mergeR va.2 vb.2).filter fun p => decide (max va.1 vb.1 < p.1)) := by
    rw [← hc, ← hfl]
    have h1 := ((canon_perm (absL C.l)).symm).filter fun p => decide (C.fl < p.1)
    have h2 : absL (C.l.filter fun p => decide (C.fl < p.1)) = (absL C.l).filter fun p => decide (C.fl < p.1) := (filter_map_key Rp.abs (fun n => decide (C.fl < n)) C.l).symm
    rw [h2]
    exact h1
  unfold trimP joinV
  rw [← hfl] at hp ⊢
  exact shrink_cut gc br _ C.fl _ _ (Nat.le_refl _) hp ((mergeR_rising ha.rise hb.rise).filter _)
theorem joinV_none {va vb : VC} (ha : GoodV va) (hb : GoodV vb) (h : overX (overX x0 vb) va = x0) : joinV va vb = (0, []) := by
  rw [joinX ha hb] at h
  have h1 : max va.1 vb.1 = 0 := congrArg Prod.fst h
  have h2 : mergeR va.2 vb.2 = [] := rising_ext _ _ (mergeR_rising ha.rise hb.rise) List.Pairwise.nil fun n => by
    have := congrFun (congrArg Prod.snd h) n
    simpa [getK, x0] using this
  rw [joinV, h1, h2]; rfl
end Go.Proofs.Ytmnaggdhkggjhaa.E
/- Join, Copy. -/
namespace Go.Proofs.Ytmnaggdhkggjhaa.E
open Go Go.RowKit
set_option linter.unusedSimpArgs false
set_option linter.unusedVariables false

section
variable {hu : Nat} {c c' : Nat → Nat} {x : Nat} {w : World} {m : Rp} {C : Cli} {g bm : Nat} {T : List (Int × Cli)} {V : Int → VC} {N : Nat}
theorem RpAt.re1 (h : RpAt c x w m) (hc : ∀ k, k < w.heap.size → c k = x → c' k = c k) : RpAt c' x w m := ⟨h.own, fun b hb => by rw [hc b (h.own.lt hb) (h.hue b hb)]; exact h.hue b hb, h.ok, h.len⟩
theorem CliAt.re1 (h : CliAt c x w C) (hc : ∀ k, k < w.heap.size → c k = x → c' k = c k) : CliAt c' x w C :=
  ⟨(hc _ h.blk.lt h.hue).trans h.hue, (hc _ h.map.lt h.huem).trans h.huem, h.blk, h.map, fun p hp => (h.el p hp).re1 hc⟩
/-- Colours of its own alone matter to a table. -/
theorem TabV.re1 (h : TabV hu c w g V N) (hc : ∀ k, k < w.heap.size → c k % 1000 = hu → c' k = c k) : TabV hu c' w g V N := by
  obtain ⟨T, ⟨bm, h1⟩, h2, h3⟩ := h.out
  have e := Nat.mod_eq_of_lt h1.hh.2
  refine ⟨h.good, T, ⟨bm, h1.hh, (hc g h1.blk.lt (by rw [h1.hue, e])).trans h1.hue, (hc bm h1.map.lt (by rw [h1.huem, e])).trans h1.huem, h1.blk, h1.map, fun p hp => ⟨(h1.el p hp).1, (h1.el p hp).2.re1 fun k hk hkx => hc k hk (by rw [hkx, hueC_mod h1.hh.2])⟩⟩, h2, h3⟩
end
theorem und80 : Try.prog.underlying 80 = some (.slice 30) := by kernel_rfl
theorem sz30 : (Try.prog.info? 30).map (·.size) = some 1 := by kernel_rfl
theorem one30 : oneB Try.prog 30 = true := by kernel_rfl
theorem Join_V {ha hb ho : Nat} {c : Nat → Nat} {w : World} {ga gb : Nat} {Va Vb : Int → VC} {Na Nb : Nat} (hA : TabV ha c w ga Va Na) (hB : TabV hb c w gb Vb Nb) (hno : 0 < ho ∧ ho < 1000) (hna : ho ≠ ha) (hnb : ho ≠ hb) (hN : Na + Nb < 900000) (hfree : ∀ k, k < w.heap.size → c k % 1000 ≠ ho) :
    CallP Try.prog 21 #[.pointer (some ⟨ga, 0, none⟩), .pointer (some ⟨gb, 0, none⟩)] (fun r w' => ∃ go c', r = .pointer (some ⟨go, 0, none⟩) ∧ (∀ k, k < w.heap.size → c' k = c k) ∧ TabV ho c' w' go (fun id => joinV (Va id) (Vb id)) (Na + Nb) ∧ Below w.heap.size w w') w := by
  obtain ⟨Ta, ⟨bma, hTa⟩, hLa, hSa⟩ := hA.out
  obtain ⟨Tb, ⟨bmb, hTb⟩, hLb, hSb⟩ := hB.out
  have gA := hA.good
  have gB := hB.good
  refine ⟨S21.calls _ _ _ _ ?_⟩
  unfold S21
  refine (New_tab ho hno c w).mono ?_
  rintro _ w1 ⟨go, c1, rfl, hc1, hO1, hb1⟩
  have hs1 := hb1.size
  refine lift (v := .slice (some ⟨w1.heap.size, 0, none⟩) 2 2) (w' := w1.alloc (.cells #[.pointer (some ⟨gb, 0, none⟩), .pointer (some ⟨ga, 0, none⟩)] 30)) (by kernel_rfl) ?_
  have hb2 := (Below.refl w1.heap.size w1).alloc (Nat.le_refl _) (.cells #[.pointer (some ⟨gb, 0, none⟩), .pointer (some ⟨ga, 0, none⟩)] 30)
  have hL2 : Blk (w1.alloc (.cells #[.pointer (some ⟨gb, 0, none⟩), .pointer (some ⟨ga, 0, none⟩)] 30)) w1.heap.size 30 #[.pointer (some ⟨gb, 0, none⟩), .pointer (some ⟨ga, 0, none⟩)] := Blk.new w1 30 _
  generalize hgl : w1.heap.size = gl at *
  generalize w1.alloc (.cells #[.pointer (some ⟨gb, 0, none⟩), .pointer (some ⟨ga, 0, none⟩)] 30) = w2 at *
  have hs2 := hb2.size
  have hb12 : Below w.heap.size w w2 := hb1.trans (hb2.mono hs1)
  refine ln und80 ?_
  -- the colours of what is new: none
  have hX2 : TabX ho (col c1 gl 0) w2 go (fun _ => x0) 0 0 := by
    refine ⟨[], ?_, by simp, fun p hp => by simp at hp, fun _ => rfl⟩
    exact (hO1.re (c' := col c1 gl 0) (fun k hk => col_lt _ _ _ k (by omega))).below (by rw [hgl]; exact hb2)
  have hag2 : ∀ k, k < w.heap.size → col c1 gl 0 k = c k := fun k hk => by rw [col_lt _ _ _ k (by omega), hc1 k hk]
  have hgl0 : col c1 gl 0 gl = 0 := col_ge _ _ _ (Nat.le_refl _)
  have hX0 : ∀ id : Int, 0 ≤ (x0).1 := fun _ => by simp [x0]
  refine LoopP.inv1 (fun iv w' => ∃ (i : Nat) (c' : Nat → Nat), i ≤ 2 ∧ iv = .int .i64 i ∧ (∀ k, k < w.heap.size → c' k = c k) ∧ c' gl = 0 ∧ Blk w' gl 30 #[.pointer (some ⟨gb, 0, none⟩), .pointer (some ⟨ga, 0, none⟩)] ∧ Below w.heap.size w w' ∧
      TabX ho c' w' go (fun id => match i with | 0 => x0 | 1 => overX x0 (Vb id) | _ => overX (overX x0 (Vb id)) (Va id)) (match i with | 0 => 0 | 1 => Nb | _ => Nb + Na) (4 * i)) (fun iv _ => 2 - (intOf iv).toNat)
    ⟨0, col c1 gl 0, by omega, rfl, hag2, hgl0, hL2, hb12, hX2⟩ ?_
  rintro _ w3 ⟨i, c3, hi, rfl, hag3, hgl3, hL3, hb3, hX3⟩ J hJ
  dsimp only [List.headD_cons, List.tail_cons]
  have hs3 := hb3.size
  have hgl3' := hL3.lt
  refine bi_lss_c (fun h => ?_) (fun h => ?_)
  · have hi2 : i < 2 := by omega
    -- one source
    have src : ∃ (hs gs bms : Nat) (Ts : List (Int × Cli)) (V : Int → VC) (X : Int → XC) (N B M : Nat), TabAt hs c w gs bms Ts ∧ (∀ id, SeesO (getK id Ts) (V id)) ∧ (∀ id, GoodV (V id)) ∧ ho ≠ hs ∧ TabX ho c3 w3 go X N B ∧ (∀ id, 0 ≤ (X id).1) ∧ N + Ts.length < 1000000 ∧ Ts.length ≤ M ∧ B ≤ 8 ∧
        w3.cell? ⟨gl, i, none⟩ = some (.pointer (some ⟨gs, 0, none⟩)) ∧
        (∀ w' c', (∀ k, k < w.heap.size → c' k = c k) → c' gl = 0 → Blk w' gl 30 #[.pointer (some ⟨gb, 0, none⟩), .pointer (some ⟨ga, 0, none⟩)] → Below w.heap.size w w' → TabX ho c' w' go (fun id => overX (X id) (V id)) (N + M) (B + 4) → J [.int .i64 (i + 1)] w') := by
      match i, hi2 with
      | 0, _ =>
        refine ⟨hb, gb, bmb, Tb, Vb, _, _, _, Nb, hTb, hSb, gB, hnb, hX3, hX0, by simp only; omega, hLb, by omega, hL3.cell 0, ?_⟩
        intro w' c' k1 k2 k3 k4 k5
        exact hJ _ _ ⟨1, c', by omega, rfl, k1, k2, k3, k4, by simpa using k5⟩ (by simp [intOf])
      | 1, _ =>
        refine ⟨ha, ga, bma, Ta, Va, _, _, _, Na, hTa, hSa, gA, hna, hX3, fun id => ?_, by simp only; omega, hLa, by omega, hL3.cell 1, ?_⟩
        · have := (gB id).fl
          simp only [overX, x0]; omega
        intro w' c' k1 k2 k3 k4 k5
        exact hJ _ _ ⟨2, c', by omega, rfl, k1, k2, k3, k4, by simpa using k5⟩ (by simp [intOf])
    obtain ⟨hs, gs, bms, Ts, V, X, N, B, M, hT, hS, hG, hne, hXX, hXp, hNN, hM, hBB, hcell, kk⟩ := src
    have hT3 : TabAt hs c3 w3 gs bms Ts := hT.on (F := fun _ => False) (Turns.of_below hb3) (fun k _ h => h.elim) hag3
    have g0 : w3.cell? ⟨gs, 0, none⟩ = some (.map (some bms)) := hT3.blk.cell 0
    have hcell' : w3.cell? ((⟨gl, 0, none⟩ : Addr).add i) = some (.pointer (some ⟨gs, 0, none⟩)) := by rw [add0, Nat.zero_add]; exact hcell
    (repeat with_reducible first | refine ix1 und80 sz30 hi2 ?_ | refine ld one30 hcell' ?_ | refine fd t0 (by decide) ?_ | refine ld one58 g0 ?_ | refine nck ?_ | refine cdT ?_ | refine cdF ?_ | refine gdY ?_ | refine gdFT ?_ | refine gdTF ?_ | refine gdU ?_ | refine gaY ?_ | refine gaFT ?_ | refine gaTF ?_ | refine pickT ?_ | refine pickF ?_ | refine bi_lss_t (by omega) ?_ | refine bi_lss_f (by omega) ?_ | refine bi_add64 (by omega) ?_ | refine bi_sub64 (by omega) ?_ | refine bi_eql_t (by omega) ?_ | refine bi_eql_f (by omega) ?_ | refine bi_neq_t (by omega) ?_ | refine bi_neq_f (by omega) ?_ | refine bi_gtr_t (by omega) ?_ | refine bi_gtr_f (by omega) ?_ | refine bi_leq_t (by omega) ?_ | refine bi_leq_f (by omega) ?_ | refine bi_geq_t (by omega) ?_ | refine bi_geq_f (by omega) ?_ | refine bi_xt0 ?_ | refine bi_xt1 ?_ | refine bi_xt2 ?_ | refine bi_xt3 ?_ | refine bi_T ?_ | refine bi_F ?_ | refine bi_not ?_ | refine bi_and ?_ | refine bi_or ?_ | refine bi_xor ?_ | refine bi_shr (by omega) (by decide) ?_ | refine bi_shl (by omega) (by decide) ?_ | refine bi_quo64 (by omega) ?_ | refine bi_rem64 (by omega) ?_ | refine bi_mul64 (by omega) ?_ | refine bi_neg ?_ | refine bi_un_xor32 ?_ | refine bi_add ?_ | refine bi_sub ?_ | refine bi_mul ?_ | refine bi_quo (by decide) ?_ | refine bi_rem (by decide) ?_)
    refine rng und58 hT3.map ?_
    intro w4 hm4 hb4
    rw [List.map_map] at hm4
    have hs4 := hb4.size
    have hcol := col_lt c3 w3.heap.size 0
    have hT4 := (hT3.re hcol).below hb4
    have hXX4 : TabX ho (col c3 w3.heap.size 0) w4 go X N B := by
      obtain ⟨T, h1, h2⟩ := hXX.out
      exact ⟨T, (h1.re hcol).below hb4, h2⟩
    refine mergeAll hT4 hS hG hm4 (col_ge _ _ _ (Nat.le_refl _)) hXX4 hXp hne hNN (by omega) ?_
    intro w5 c5 hc5 hX5 hT5
    obtain ⟨T5, q1, q2, q3, q4⟩ := hX5.out
    have hb5 : Below w.heap.size w4 w5 := hT5.below (by omega) fun k hk e => by
      rcases e with e | e
      · rw [Dh, hcol k (by omega), hag3 k hk] at e; exact hfree k hk e
      · omega
    (repeat with_reducible first | refine nck ?_ | refine cdT ?_ | refine cdF ?_ | refine gdY ?_ | refine gdFT ?_ | refine gdTF ?_ | refine gdU ?_ | refine gaY ?_ | refine gaFT ?_ | refine gaTF ?_ | refine pickT ?_ | refine pickF ?_ | refine bi_lss_t (by omega) ?_ | refine bi_lss_f (by omega) ?_ | refine bi_add64 (by omega) ?_ | refine bi_sub64 (by omega) ?_ | refine bi_eql_t (by omega) ?_ | refine bi_eql_f (by omega) ?_ | refine bi_neq_t (by omega) ?_ | refine bi_neq_f (by omega) ?_ | refine bi_gtr_t (by omega) ?_ | refine bi_gtr_f (by omega) ?_ | refine bi_leq_t (by omega) ?_ | refine bi_leq_f (by omega) ?_ | refine bi_geq_t (by omega) ?_ | refine bi_geq_f (by omega) ?_ | refine bi_xt0 ?_ | refine bi_xt1 ?_ | refine bi_xt2 ?_ | refine bi_xt3 ?_ | refine bi_T ?_ | refine bi_F ?_ | refine bi_not ?_ | refine bi_and ?_ | refine bi_or ?_ | refine bi_xor ?_ | refine bi_shr (by omega) (by decide) ?_ | refine bi_shl (by omega) (by decide) ?_ | refine bi_quo64 (by omega) ?_ | refine bi_rem64 (by omega) ?_ | refine bi_mul64 (by omega) ?_ | refine bi_neg ?_ | refine bi_un_xor32 ?_ | refine bi_add ?_ | refine bi_sub ?_ | refine bi_mul ?_ | refine bi_quo (by decide) ?_ | refine bi_rem (by decide) ?_)
    refine kk _ c5 (fun k hk => by rw [hc5 k (by omega), hcol k (by omega), hag3 k hk]) (by rw [hc5 gl (by omega), hcol gl hgl3', hgl3]) ((hL3.below' hb4).turns hT5 (fun e => by
      rcases e with e | e
      · rw [Dh, hcol gl hgl3', hgl3] at e; omega
      · omega)) (hb3.trans ((hb4.mono (by omega)).trans hb5)) ⟨T5, q1, by omega, q3, q4⟩
  · have : i = 2 := by omega
    subst this
    obtain ⟨T, ⟨bm, hT⟩, hN3, hB3, hsh3⟩ := hX3.out
    obtain ⟨hh1, hh2⟩ := hT.hh
    have g0 : w3.cell? ⟨go, 0, none⟩ = some (.map (some bm)) := hT.blk.cell 0
    (repeat with_reducible first | refine fd t0 (by decide) ?_ | refine ld one58 g0 ?_ | refine nck ?_ | refine cdT ?_ | refine cdF ?_ | refine gdY ?_ | refine gdFT ?_ | refine gdTF ?_ | refine gdU ?_ | refine gaY ?_ | refine gaFT ?_ | refine gaTF ?_ | refine pickT ?_ | refine pickF ?_ | refine bi_lss_t (by omega) ?_ | refine bi_lss_f (by omega) ?_ | refine bi_add64 (by omega) ?_ | refine bi_sub64 (by omega) ?_ | refine bi_eql_t (by omega) ?_ | refine bi_eql_f (by omega) ?_ | refine bi_neq_t (by omega) ?_ | refine bi_neq_f (by omega) ?_ | refine bi_gtr_t (by omega) ?_ | refine bi_gtr_f (by omega) ?_ | refine bi_leq_t (by omega) ?_ | refine bi_leq_f (by omega) ?_ | refine bi_geq_t (by omega) ?_ | refine bi_geq_f (by omega) ?_ | refine bi_xt0 ?_ | refine bi_xt1 ?_ | refine bi_xt2 ?_ | refine bi_xt3 ?_ | refine bi_T ?_ | refine bi_F ?_ | refine bi_not ?_ | refine bi_and ?_ | refine bi_or ?_ | refine bi_xor ?_ | refine bi_shr (by omega) (by decide) ?_ | refine bi_shl (by omega) (by decide) ?_ | refine bi_quo64 (by omega) ?_ | refine bi_rem64 (by omega) ?_ | refine bi_mul64 (by omega) ?_ | refine bi_neg ?_ | refine bi_un_xor32 ?_ | refine bi_add ?_ | refine bi_sub ?_ | refine bi_mul ?_ | refine bi_quo (by decide) ?_ | refine bi_rem (by decide) ?_)
    refine rng und58 hT.map ?_
    intro w4 hm4 hb4
    rw [List.map_map] at hm4
    have hs4 := hb4.size
    have hcol := col_lt c3 w3.heap.size 0
    have hT4 := (hT.re hcol).below hb4
    have hrz : col c3 w3.heap.size 0 w3.heap.size = 0 := col_ge _ _ _ (Nat.le_refl _)
    have hag4 : ∀ k, k < w.heap.size → col c3 w3.heap.size 0 k = c k := fun k hk => by rw [hcol k (by omega), hag3 k hk]
    have hb4' : Below w.heap.size w w4 := hb3.trans (hb4.mono hs3)
    generalize col c3 w3.heap.size 0 = c4 at *
    generalize hrr : w3.heap.size = r at *
    refine LoopP.inv0n (fun n w' => ∃ (todo : List Int) (T' : List (Int × Cli)), todo.length = n ∧ TabAt ho c4 w' go bm T' ∧ T'.length ≤ Nb + Na ∧ (∀ p ∈ T', p.1 ∈ todo → p.2.l.length ≤ 8) ∧
        (∀ id, if id ∈ todo then ShowsO (getK id T') (overX (overX x0 (Vb id)) (Va id)) else SeesO (getK id T') (joinV (Va id) (Vb id))) ∧ MapR w' bm r (T'.map fun p => (p.1, .pointer (some ⟨p.2.gc, 0, none⟩))) todo ∧ Below w.heap.size w w') (T.map (·.1)).length
      ⟨T.map (·.1), T, rfl, hT4, hN3, fun p hp _ => hB3 p hp, fun id => ?_, hm4, hb4'⟩ ?_
    · split
      · exact hsh3 id
      · rename_i hn
        have hnone : getK id T = none := getK_none_of id T fun p hp e => hn (List.mem_map.2 ⟨p, hp, e⟩)
        have h0 := hsh3 id
        rw [hnone] at h0 ⊢
        exact joinV_none (gA id) (gB id) h0
    rintro n w5 ⟨todo, T', rfl, hT5, hN5, hB5, hsh5, hm5, hb5⟩ J2 hJ2
    have hs5 := hb5.size
    refine nxt hm5 (fun e => ?_) ?_
    · subst e
      (repeat with_reducible first | refine nck ?_ | refine cdT ?_ | refine cdF ?_ | refine gdY ?_ | refine gdFT ?_ | refine gdTF ?_ | refine gdU ?_ | refine gaY ?_ | refine gaFT ?_ | refine gaTF ?_ | refine pickT ?_ | refine pickF ?_ | refine bi_lss_t (by omega) ?_ | refine bi_lss_f (by omega) ?_ | refine bi_add64 (by omega) ?_ | refine bi_sub64 (by omega) ?_ | refine bi_eql_t (by omega) ?_ | refine bi_eql_f (by omega) ?_ | refine bi_neq_t (by omega) ?_ | refine bi_neq_f (by omega) ?_ | refine bi_gtr_t (by omega) ?_ | refine bi_gtr_f (by omega) ?_ | refine bi_leq_t (by omega) ?_ | refine bi_leq_f (by omega) ?_ | refine bi_geq_t (by omega) ?_ | refine bi_geq_f (by omega) ?_ | refine bi_xt0 ?_ | refine bi_xt1 ?_ | refine bi_xt2 ?_ | refine bi_xt3 ?_ | refine bi_T ?_ | refine bi_F ?_ | refine bi_not ?_ | refine bi_and ?_ | refine bi_or ?_ | refine bi_xor ?_ | refine bi_shr (by omega) (by decide) ?_ | refine bi_shl (by omega) (by decide) ?_ | refine bi_quo64 (by omega) ?_ | refine bi_rem64 (by omega) ?_ | refine bi_mul64 (by omega) ?_ | refine bi_neg ?_ | refine bi_un_xor32 ?_ | refine bi_add ?_ | refine bi_sub ?_ | refine bi_mul ?_ | refine bi_quo (by decide) ?_ | refine bi_rem (by decide) ?_)
      refine ⟨go, c4, rfl, hag4, ⟨fun id => joinV_good (gA id) (gB id), T', ⟨bm, hT5⟩, by omega, fun id => ?_⟩, hb5⟩
      have := hsh5 id
      rwa [if_neg (by simp)] at this
    · intro id v w6 hid hg hm6 hT6 hent
      obtain ⟨C, hgc, rfl⟩ := ptr_get hg
      have hmC := getK_mem _ _ _ hgc
      have hT6' : TabAt ho c4 w6 go bm T' := hT5.turns hT6 (fun j hj => by rw [hj, hrz]; omega)
      have hC := (hT6'.el _ hmC).2
      simp only at hC
      (repeat with_reducible first | refine nck ?_ | refine cdT ?_ | refine cdF ?_ | refine gdY ?_ | refine gdFT ?_ | refine gdTF ?_ | refine gdU ?_ | refine gaY ?_ | refine gaFT ?_ | refine gaTF ?_ | refine pickT ?_ | refine pickF ?_ | refine bi_lss_t (by omega) ?_ | refine bi_lss_f (by omega) ?_ | refine bi_add64 (by omega) ?_ | refine bi_sub64 (by omega) ?_ | refine bi_eql_t (by omega) ?_ | refine bi_eql_f (by omega) ?_ | refine bi_neq_t (by omega) ?_ | refine bi_neq_f (by omega) ?_ | refine bi_gtr_t (by omega) ?_ | refine bi_gtr_f (by omega) ?_ | refine bi_leq_t (by omega) ?_ | refine bi_leq_f (by omega) ?_ | refine bi_geq_t (by omega) ?_ | refine bi_geq_f (by omega) ?_ | refine bi_xt0 ?_ | refine bi_xt1 ?_ | refine bi_xt2 ?_ | refine bi_xt3 ?_ | refine bi_T ?_ | refine bi_F ?_ | refine bi_not ?_ | refine bi_and ?_ | refine bi_or ?_ | refine bi_xor ?_ | refine bi_shr (by omega) (by decide) ?_ | refine bi_shl (by omega) (by decide) ?_ | refine bi_quo64 (by omega) ?_ | refine bi_rem64 (by omega) ?_ | refine bi_mul64 (by omega) ?_ | refine bi_neg ?_ | refine bi_un_xor32 ?_ | refine bi_add ?_ | refine bi_sub ?_ | refine bi_mul ?_ | refine bi_quo (by decide) ?_ | refine bi_rem (by decide) ?_)
      refine lift hent ?_
      (repeat with_reducible first | refine nck ?_ | refine cdT ?_ | refine cdF ?_ | refine gdY ?_ | refine gdFT ?_ | refine gdTF ?_ | refine gdU ?_ | refine gaY ?_ | refine gaFT ?_ | refine gaTF ?_ | refine pickT ?_ | refine pickF ?_ | refine bi_lss_t (by omega) ?_ | refine bi_lss_f (by omega) ?_ | refine bi_add64 (by omega) ?_ | refine bi_sub64 (by omega) ?_ | refine bi_eql_t (by omega) ?_ | refine bi_eql_f (by omega) ?_ | refine bi_neq_t (by omega) ?_ | refine bi_neq_f (by omega) ?_ | refine bi_gtr_t (by omega) ?_ | refine bi_gtr_f (by omega) ?_ | refine bi_leq_t (by omega) ?_ | refine bi_leq_f (by omega) ?_ | refine bi_geq_t (by omega) ?_ | refine bi_geq_f (by omega) ?_ | refine bi_xt0 ?_ | refine bi_xt1 ?_ | refine bi_xt2 ?_ | refine bi_xt3 ?_ | refine bi_T ?_ | refine bi_F ?_ | refine bi_not ?_ | refine bi_and ?_ | refine bi_or ?_ | refine bi_xor ?_ | refine bi_shr (by omega) (by decide) ?_ | refine bi_shl (by omega) (by decide) ?_ | refine bi_quo64 (by omega) ?_ | refine bi_rem64 (by omega) ?_ | refine bi_mul64 (by omega) ?_ | refine bi_neg ?_ | refine bi_un_xor32 ?_ | refine bi_add ?_ | refine bi_sub ?_ | refine bi_mul ?_ | refine bi_quo (by decide) ?_ | refine bi_rem (by decide) ?_)
      have hl8 := hB5 _ hmC hid
      simp only at hl8
      refine (trim_spec c4 _ C w6 hC (by omega)).mono ?_
      rintro _ w7 ⟨hC7, hT7⟩
      have hFc : ∀ k, (k = C.gc ∨ k = C.br) → c4 k = hueC ho id := by
        rintro k (rfl | rfl)
        · exact hC.hue
        · exact hC.huem
      have hup := hT6'.upd hgc hT7 hFc hC7 rfl
      have hnd := hT6'.nodup
      have hm7 := hm6.turns hT7 (fun e => by
        have := hFc _ e
        rw [hT6'.huem] at this
        exact hueC_ne ho id this.symm) (fun e => by
        have := hFc _ e
        rw [hrz] at this
        unfold hueC at this; omega)
      have hsame : ((setK id ⟨C.gc, C.br, (trimP C.fl C.l).1, (trimP C.fl C.l).2⟩ T').map fun p : Int × Cli => (p.1, Value.pointer (some ⟨p.2.gc, 0, none⟩))) = T'.map fun p => (p.1, Value.pointer (some ⟨p.2.gc, 0, none⟩)) :=
        setK_same (v := (⟨C.gc, C.br, (trimP C.fl C.l).1, (trimP C.fl C.l).2⟩ : Cli)) (v0 := C) (fun C : Cli => Value.pointer (some ⟨C.gc, 0, none⟩)) rfl hgc
      have hT67 : Below w.heap.size w6 w7 := hT7.below (by have := hT6.size; omega) fun k hk e => by
        have h1 := hFc k e
        rw [hag4 k hk] at h1
        exact hfree k hk (by rw [h1, hueC_mod hh2])
      have hb7 : Below w.heap.size w w7 := hb5.trans ((hT6.below (by omega) fun k hk e => by omega).trans hT67)
      refine hJ2 _ _ (filter_lt hid) ⟨_, setK id ⟨C.gc, C.br, (trimP C.fl C.l).1, (trimP C.fl C.l).2⟩ T', rfl, hup, by rw [setK_len hgc]; exact hN5, fun p hp hpt => ?_, fun j => ?_, ?_, hb7⟩
      · rcases setK_mem' hnd hp with rfl | ⟨hp, _⟩
        · exact absurd hpt (by simp [List.mem_filter])
        · exact hB5 p hp (List.mem_filter.1 hpt).1
      · by_cases hj : j = id
        · subst hj
          rw [if_neg (by simp [List.mem_filter]), getK_setK_same]
          have h0 := hsh5 j
          rw [if_pos hid, hgc] at h0
          exact Shows.trim (gA j) (gB j) h0 hC.nodup C.gc C.br
        · rw [getK_setK_other _ _ hj]
          have : (j ∈ todo.filter fun k => decide (k ≠ id)) ↔ j ∈ todo := by simp [List.mem_filter, hj]
          simp only [this]
          exact hsh5 j
      · rw [hsame]; exact hm7
theorem Copy_V {ha ho hz : Nat} {c : Nat → Nat} {w : World} {ga : Nat} {Va : Int → VC} {Na : Nat} (hA : TabV ha c w ga Va Na) (hno : 0 < ho ∧ ho < 1000) (hnz : 0 < hz ∧ hz < 1000) (hna : ho ≠ ha) (hzo : ho ≠ hz) (hza : hz ≠ ha) (hN : Na < 800000) (hfree : ∀ k, k < w.heap.size → c k % 1000 ≠ ho) :
    CallP Try.prog 23 #[.pointer (some ⟨ga, 0, none⟩)] (fun r w' => ∃ go c', r = .pointer (some ⟨go, 0, none⟩) ∧ (∀ k, k < w.heap.size → c' k = c k) ∧ TabV ho c' w' go (fun id => joinV (Va id) (0, [])) Na ∧ Below w.heap.size w w') w := by
  refine ⟨S23.calls _ _ _ ?_⟩
  unfold S23
  refine (New_V hz hnz c w).mono ?_
  rintro _ w1 ⟨gz, c1, rfl, hc1, hZ, hb1⟩
  have hs1 := hb1.size
  obtain ⟨cz, hz1, hz2, hz3⟩ : ∃ cz : Nat → Nat, (∀ k, k < w.heap.size → cz k = c k) ∧ (∀ k, c1 k % 1000 = hz → cz k = c1 k) ∧ (∀ k, w.heap.size ≤ k → cz k % 1000 = hz ∨ cz k = 0) :=
    ⟨fun k => if k < w.heap.size ∨ c1 k % 1000 = hz then c1 k else 0, fun k hk => by simp only; rw [if_pos (.inl hk), hc1 k hk], fun k hk => by simp only; rw [if_pos (.inr hk)], fun k hk => by
      simp only
      split
      · rename_i h
        rcases h with h | h
        · omega
        · exact .inl h
      · exact .inr rfl⟩
  have hA1 : TabV ha cz w1 ga Va Na := (hA.re hz1).below hb1
  have hZ1 : TabV hz cz w1 gz V0 0 := hZ.re1 fun k _ hk => hz2 k hk
  refine (Join_V hA1 hZ1 hno hna hzo (by omega) (fun k hk e => ?_)).mono ?_
  · rcases Nat.lt_or_ge k w.heap.size with h1 | h1
    · rw [hz1 k h1] at e; exact hfree k h1 e
    · rcases hz3 k h1 with h | h
      · rw [h] at e; exact hzo e.symm
      · rw [h] at e; omega
  · rintro _ w2 ⟨go, c2, rfl, hc2, h2, hb2⟩
    exact ⟨go, c2, rfl, fun k hk => by rw [hc2 k (by omega), hz1 k hk], h2, below_then hb1 hb2⟩
end Go.Proofs.Ytmnaggdhkggjhaa.E
/- OnceNever: a request that was answered is never new again. -/
namespace Go.Proofs.Ytmnaggdhkggjhaa.E
open Go Go.RowKit
set_option linter.unusedSimpArgs false
set_option linter.unusedVariables false

/-! ### known, or too old -/
def KnownV (v : VC) (m : Int) : Prop := m ≤ v.1 ∨ m ∈ v.2.map (·.1)
theorem cutR_small (fl : Int) (l : List (Int × Rm)) (h : l.length ≤ 4) : cutR fl l = (fl, l) := by
  cases l with
  | nil => rfl
  | cons p r => rw [cutR, if_neg (by omega)]
theorem cutV_R (fl : Int) (l : List (Int × Rm)) (h : l.length ≤ 5) : cutV fl l = cutR fl l := by
  cases l with
  | nil => rfl
  | cons p r =>
    unfold cutV
    rw [cutR]
    simp only
    split
    · rw [cutR_small p.1 r (by simp at h; omega)]
    · rfl
theorem cutR_fl : ∀ (l : List (Int × Rm)) (fl : Int), Rising l → (∀ p ∈ l, fl < p.1) → fl ≤ (cutR fl l).1
  | [], fl, _, _ => Int.le_refl _
  | p :: r, fl, h1, h2 => by
    rw [cutR]
    split
    · have h3 := h2 p (by simp)
      obtain ⟨g1, g2⟩ := List.pairwise_cons.1 h1
      have := cutR_fl r p.1 g2 fun q hq => g1 q hq
      omega
    · exact Int.le_refl _
theorem cutR_known : ∀ (l : List (Int × Rm)) (fl m : Int), Rising l → (∀ p ∈ l, fl < p.1) → m ∈ l.map (·.1) → KnownV (cutR fl l) m
  | [], fl, m, _, _, h => by simp at h
  | p :: r, fl, m, h1, h2, h => by
    rw [cutR]
    split
    · obtain ⟨g1, g2⟩ := List.pairwise_cons.1 h1
      rw [List.map_cons] at h
      rcases List.mem_cons.1 h with e | h
      · left
        have := cutR_fl r p.1 g2 fun q hq => g1 q hq
        omega
      · exact cutR_known r p.1 m g2 (fun q hq => g1 q hq) h
    · exact .inr h
theorem putV_known {v : VC} (h : GoodV v) {n : Int} {x : Rm} (hn : v.1 < n) (hne : ∀ p ∈ v.2, p.1 ≠ n) (m : Int) (hm : m = n ∨ KnownV v m) : KnownV (putV v n x) m := by
  have hr := insK_rising n x v.2 h.rise hne
  have hab : ∀ p ∈ insK n x v.2, v.1 < p.1 := fun p hp => by
    rcases List.mem_cons.1 ((insK_perm n x v.2).mem_iff.1 hp) with rfl | hp
    · exact hn
    · exact h.above p hp
  unfold putV
  rw [cutV_R _ _ (by rw [insK_len]; have := h.len; omega)]
  have hk : ∀ j, j ∈ (insK n x v.2).map (·.1) ↔ j = n ∨ j ∈ v.2.map (·.1) := fun j => by
    rw [((insK_perm n x v.2).map (·.1)).mem_iff]
    simp
  rcases hm with rfl | hm | hm
  · exact cutR_known _ _ _ hr hab ((hk _).2 (.inl rfl))
  · left
    have := cutR_fl _ _ hr hab
    omega
  · exact cutR_known _ _ _ hr hab ((hk _).2 (.inr hm))
theorem joinV_known {va vb : VC} (ha : GoodV va) (hb : GoodV vb) (m : Int) (h : KnownV va m ∨ KnownV vb m) : KnownV (joinV va vb) m := by
  have hr := (mergeR_rising ha.rise hb.rise).filter fun p => decide (max va.1 vb.1 < p.1)
  have hab : ∀ p ∈ (mergeR va.2 vb.2).filter (fun p => decide (max va.1 vb.1 < p.1)), max va.1 vb.1 < p.1 := fun p hp => by simpa using (List.mem_filter.1 hp).2
  have hfl := cutR_fl _ _ hr hab
  unfold joinV
  by_cases hle : m ≤ max va.1 vb.1
  · left; omega
  · have hmem : m ∈ (mergeR va.2 vb.2).map (·.1) := by
      have hget : (getK m (mergeR va.2 vb.2)).isSome = true := by
        rw [mergeR_get ha.rise hb.rise]
        have some_of : ∀ {l : List (Int × Rm)}, m ∈ l.map (·.1) → (getK m l).isSome = true := fun {l} hm => by
          cases hx : getK m l with
          | some _ => rfl
          | none =>
            obtain ⟨p, hp, e⟩ := List.mem_map.1 hm
            exact absurd e (getK_none_mem m l hx p hp)
        rcases h with (h | h) | (h | h)
        · omega
        · have := some_of h
          cases hx : getK m va.2 with
          | some _ => rfl
          | none => rw [hx] at this; cases this
        · omega
        · have := some_of h
          cases hx : getK m va.2 with
          | some _ => rfl
          | none => exact this
      obtain ⟨x, hx⟩ := Option.isSome_iff_exists.1 hget
      exact List.mem_map.2 ⟨(m, x), getK_mem _ _ _ hx, rfl⟩
    refine cutR_known _ _ _ hr hab ?_
    obtain ⟨p, hp, e⟩ := List.mem_map.1 hmem
    exact List.mem_map.2 ⟨p, List.mem_filter.2 ⟨hp, by simp only [decide_eq_true_eq]; omega⟩, e⟩
theorem keepQ_known {V : Int → VC} (hg : ∀ id, GoodV (V id)) (id n : Int) (R : Rep) (vs : List ValT) (rows : Nat) (i m : Int) (h : KnownV (V i) m) : KnownV ((keepQ V id n R vs rows).2 i) m := by
  unfold keepQ
  split
  · exact h
  · rename_i harg
    split
    · exact h
    · rename_i h12
      split
      · exact h
      · rename_i h0
        obtain ⟨_, _, h3, h4⟩ := lookQ_new (lookQ_bad (argP_bad (by simpa using harg))) h12 h0
        show KnownV (setV V id _ i) m
        unfold setV
        split
        · rename_i e
          subst e
          exact putV_known (hg i) h3 h4 m (.inr h)
        · exact h
theorem keepQ_new {V : Int → VC} (hg : ∀ id, GoodV (V id)) (id n : Int) (R : Rep) (vs : List ValT) (rows : Nat) (h : (keepQ V id n R vs rows).1 = 0) : badP id n = false ∧ KnownV ((keepQ V id n R vs rows).2 id) n := by
  unfold keepQ at h ⊢
  split at h
  · cases h
  · rename_i harg
    rw [if_neg harg]
    split at h
    · cases h
    · rename_i h12
      rw [if_neg h12]
      split at h
      · cases h
      · rename_i h0
        rw [if_neg h0]
        have hbad := argP_bad (by simpa using harg)
        obtain ⟨_, _, h3, h4⟩ := lookQ_new (lookQ_bad hbad) h12 h0
        refine ⟨hbad, ?_⟩
        show KnownV (setV V id _ id) n
        rw [setV_same]
        exact putV_known (hg id) h3 h4 n (.inl rfl)
theorem look_known {V : Int → VC} {id n : Int} (hb : badP id n = false) (h : KnownV (V id) n) : (lookQ V id n).1 = 0 ∨ (lookQ V id n).1 = 12 := by
  rw [lookQ, if_neg (by rw [hb]; exact Bool.false_ne_true)]
  unfold lookV
  split
  · exact .inr rfl
  · rename_i hle
    left
    rcases h with h | h
    · exact absurd h hle
    · cases hx : getK n (V id).2 with
      | some _ => rfl
      | none =>
        obtain ⟨p, hp, e⟩ := List.mem_map.1 h
        exact absurd e (getK_none_mem n _ hx p hp)
theorem and1 (a : Int) : bits .and .i64 a 1 = 0 ∨ bits .and .i64 a 1 = 1 := by
  have h : ∀ x : BitVec 64, (x &&& 1#64) = 0#64 ∨ (x &&& 1#64) = 1#64 := fun x => by
    have e : (x &&& 1#64).toNat = x.toNat % 2 := by rw [BitVec.toNat_and]; exact Nat.and_one_is_mod _
    rcases Nat.mod_two_eq_zero_or_one x.toNat with h | h
    · left; apply BitVec.eq_of_toNat_eq; rw [e, h]; rfl
    · right; apply BitVec.eq_of_toNat_eq; rw [e, h]; rfl
  show IntKind.i64.wrap ((BitVec.ofInt 64 a &&& BitVec.ofInt 64 1).toNat : Int) = 0 ∨ IntKind.i64.wrap ((BitVec.ofInt 64 a &&& BitVec.ofInt 64 1).toNat : Int) = 1
  rcases h (BitVec.ofInt 64 a) with h | h
  · left
    have : BitVec.ofInt 64 a &&& BitVec.ofInt 64 1 = 0#64 := h
    rw [this]; rfl
  · right
    have : BitVec.ofInt 64 a &&& BitVec.ofInt 64 1 = 1#64 := h
    rw [this]; rfl
end Go.Proofs.Ytmnaggdhkggjhaa.E
/- OnceNever: the walk. -/
namespace Go.Proofs.Ytmnaggdhkggjhaa.E
open Go Go.RowKit
set_option linter.unusedSimpArgs false
set_option linter.unusedVariables false

theorem keepTwo {h0 : Nat} {c : Nat → Nat} {w : World} {g0 g1 : Nat} {V U : Int → VC} {N M : Nat} (b : Bool) (id n : Int) (R : Rep) (p q : Value) (vs : List ValT) (rows : List RowT) (hA : TabV h0 c w g0 V N) (hB : TabV 2 c w g1 U M) (hne : h0 ≠ 2)
    (hp : Vals w [p] vs) (hpc : ∀ hu, 0 < hu → (vs = [] ∨ ∀ k, p.ownBlock = some k → c k % 1000 ≠ hu)) (hq : RowsR w [q] rows) (hvl : vs.length ≤ 1000) (hN : N < 1000000) (hM : M < 1000000) :
    CallP Try.prog 11 #[.pointer (some ⟨if b then g1 else g0, 0, none⟩), .int .i64 id, .int .i64 n, .agg (R.cells p q)]
      (fun r w' => ∃ e V' U' c', r = .int .i64 e ∧ (∀ k, k < w.heap.size → c' k = c k) ∧ TabV h0 c' w' g0 V' (N + 1) ∧ TabV 2 c' w' g1 U' (M + 1) ∧ Turns (fun k => c k % 1000 = h0 ∨ c k % 1000 = 2) w w' ∧
        (e = 0 → badP id n = false ∧ (KnownV (V' id) n ∨ KnownV (U' id) n)) ∧ (∀ i m, KnownV (V i) m → KnownV (V' i) m) ∧ (∀ i m, KnownV (U i) m → KnownV (U' i) m)) w := by
  have hh := hA.hh
  cases b with
  | false =>
    refine (Keep_V id n R p q vs rows hA hp (hpc h0 hh.1) hq hvl hN).mono ?_
    rintro _ w' ⟨rfl, c', hc, hT, hTu⟩
    exact ⟨_, _, U, c', rfl, hc, hT, (hB.other hTu hne hc).mono (by omega), hTu.mono fun k _ e => .inl e, fun h => by
      obtain ⟨h1, h2⟩ := keepQ_new hA.good id n R vs rows.length h
      exact ⟨h1, .inl h2⟩, fun i m h => keepQ_known hA.good id n R vs rows.length i m h, fun _ _ h => h⟩
  | true =>
    refine (Keep_V id n R p q vs rows hB hp (hpc 2 (by decide)) hq hvl hM).mono ?_
    rintro _ w' ⟨rfl, c', hc, hT, hTu⟩
    exact ⟨_, V, _, c', rfl, hc, (hA.other hTu (fun e => hne e.symm) hc).mono (by omega), hT, hTu.mono fun k _ e => .inr e, fun h => by
      obtain ⟨h1, h2⟩ := keepQ_new hB.good id n R vs rows.length h
      exact ⟨h1, .inr h2⟩, fun _ _ h => h, fun i m h => keepQ_known hB.good id n R vs rows.length i m h⟩
theorem und54 : Try.prog.underlying 54 = some (.array 2 30) := by kernel_rfl
theorem sz54 : (Try.prog.info? 54).map (·.size) = some 2 := by kernel_rfl
theorem z54 : (Try.prog.info? 54).bind (·.zero) = some (.agg #[.pointer none, .pointer none]) := by kernel_rfl
theorem row_ne {s : Nat} {e t : TypeId} {w : World} {v : Value} {n : Nat} {xs : List Value} {g : Nat} {cs : Array Value} (h : w.ownsRow 0 e s v n xs) (h' : Blk w g t cs) (ht : e ≠ t) : v.ownBlock ≠ some g := by
  rcases h.2 with ⟨rfl, _⟩ | ⟨g', c, cur, rfl, h0, hb, h1⟩
  · simp [Value.ownBlock]
  · intro he
    have : g' = g := by simpa [Value.ownBlock] using he
    exact blk_ne hb h' ht this
/-- The colours of two tables; all else is of none. -/
def clearC (h0 : Nat) (c : Nat → Nat) : Nat → Nat := fun k => if c k % 1000 = h0 ∨ c k % 1000 = 2 then c k else 0
theorem clearC_eq {h0 : Nat} {c : Nat → Nat} {k : Nat} (h : c k % 1000 = h0 ∨ c k % 1000 = 2) : clearC h0 c k = c k := by simp only [clearC]; rw [if_pos h]
theorem clearC_or (h0 : Nat) (c : Nat → Nat) (k : Nat) : clearC h0 c k % 1000 = h0 ∨ clearC h0 c k % 1000 = 2 ∨ clearC h0 c k = 0 := by
  simp only [clearC]
  split
  · rename_i h; rcases h with h | h
    · exact .inl h
    · exact .inr (.inl h)
  · exact .inr (.inr rfl)
theorem clearC_zero {h0 : Nat} {c : Nat → Nat} {k : Nat} (h : c k = 0) : clearC h0 c k = 0 := by
  simp only [clearC]
  split
  · exact h
  · rfl
/-- What the loop bears. -/
structure NeverAt (w0 : World) (bt : Nat) (h0 : Nat) (c : Nat → Nat) (w : World) (g0 g1 : Nat) (V U : Int → VC) (N M : Nat) (v : Value) (kl : List KA) : Prop where
  h13 : h0 = 1 ∨ h0 = 3
  a : TabV h0 c w g0 V N
  b : TabV 2 c w g1 U M
  old : ∀ k, k < w0.heap.size → c k = 0
  cbt : c bt = 0
  blk : Blk w bt 54 #[.pointer (some ⟨g0, 0, none⟩), .pointer (some ⟨g1, 0, none⟩)]
  bel : Below w0.heap.size w0 w
  few : ∀ k, c k % 1000 = h0 ∨ c k % 1000 = 2 ∨ c k = 0
  row : w.ownsRow 0 47 8 v kl.length (kl.flatMap kaF)
  frv : Fresh w0.heap.size v
  hue : InC c 0 v
  known : ∀ e ∈ kl, badP e.1.cl e.1.no = false ∧ (KnownV (V e.1.cl) e.1.no ∨ KnownV (U e.1.cl) e.1.no)
theorem NeverAt.clear {w0 : World} {bt h0 : Nat} {c : Nat → Nat} {w : World} {g0 g1 : Nat} {V U : Int → VC} {N M : Nat} {v : Value} {kl : List KA} (h13 : h0 = 1 ∨ h0 = 3)
  (a : TabV h0 c w g0 V N) (b : TabV 2 c w g1 U M) (old : ∀ k, k < w0.heap.size → c k = 0) (cbt : c bt = 0) (blk : Blk w bt 54 #[.pointer (some ⟨g0, 0, none⟩), .pointer (some ⟨g1, 0, none⟩)]) (bel : Below w0.heap.size w0 w)
  (row : w.ownsRow 0 47 8 v kl.length (kl.flatMap kaF)) (frv : Fresh w0.heap.size v) (hue : InC c 0 v) (known : ∀ e ∈ kl, badP e.1.cl e.1.no = false ∧ (KnownV (V e.1.cl) e.1.no ∨ KnownV (U e.1.cl) e.1.no)) :
    NeverAt w0 bt h0 (clearC h0 c) w g0 g1 V U N M v kl :=
  ⟨h13, a.re1 fun k _ hk => clearC_eq (.inl hk), b.re1 fun k _ hk => clearC_eq (.inr hk), fun k hk => clearC_zero (old k hk), clearC_zero cbt, blk, bel, clearC_or h0 c, row, frv, fun k hk => clearC_zero (hue k hk), known⟩
end Go.Proofs.Ytmnaggdhkggjhaa.E
