/- Join: all clients of one table put into another. -/
import Derived.Test.YtmnaggdhkggjhaaOnN
namespace Go.Proofs.Ytmnaggdhkggjhaa.E
open Go Go.RowKit
set_option linter.unusedSimpArgs false
set_option linter.unusedVariables false

def ShowsO (o : Option Cli) (x : XC) : Prop := match o with
  | none => x = x0
  | some C => Shows C x
structure TabX (hu : Nat) (c : Nat → Nat) (w : World) (g : Nat) (X : Int → XC) (N B : Nat) : Prop where
  out : ∃ T, TabC hu c w g T ∧ T.length ≤ N ∧ (∀ p ∈ T, p.2.l.length ≤ B) ∧ ∀ id, ShowsO (getK id T) (X id)
theorem ptr_get {T : List (Int × Cli)} {k : Int} {v : Value} (h : getK k (T.map fun p => (p.1, Value.pointer (some ⟨p.2.gc, 0, none⟩))) = some v) : ∃ C, getK k T = some C ∧ v = .pointer (some ⟨C.gc, 0, none⟩) := by
  rw [getK_map (fun C : Cli => Value.pointer (some ⟨C.gc, 0, none⟩))] at h
  obtain ⟨C, h1, h2⟩ := Option.map_eq_some_iff.1 h
  exact ⟨C, h1, h2.symm⟩
theorem TabAt.nodup {hu : Nat} {c : Nat → Nat} {w : World} {g bm : Nat} {T : List (Int × Cli)} (h : TabAt hu c w g bm T) : (T.map (·.1)).Nodup := by
  have := h.map.nodup
  rwa [List.map_map] at this
theorem TabAt.keys {hu : Nat} {c : Nat → Nat} {w : World} {g bm : Nat} {T : List (Int × Cli)} (h : TabAt hu c w g bm T) {p : Int × Cli} (hp : p ∈ T) : 0 ≤ p.1 ∧ p.1 ≤ 9223372036854775807 := by
  refine ⟨(h.el p hp).1, ?_⟩
  obtain ⟨es, cl, _, _, _, _, h5⟩ := h.map
  have := h5 (p.1, .pointer (some ⟨p.2.gc, 0, none⟩)) (List.mem_map.2 ⟨p, hp, rfl⟩)
  simp [Lit.wf, IntKind.min, IntKind.max, IntKind.signed, IntKind.bits] at this
  omega
theorem iter_ne {w : World} {g : Nat} {t : TypeId} {cs : Array Value} {b r : Nat} {l : List (Int × Value)} {todo : List Int} (h : Blk w g t cs) (h' : MapR w b r l todo) : g ≠ r := by
  rintro rfl
  obtain ⟨_, _, _, _, _, _, _, _, _, _, h6, _⟩ := h'
  unfold Blk at h
  rw [h6] at h
  cases h
theorem iter_nem {w : World} {b r b' : Nat} {l l' : List (Int × Value)} {todo : List Int} (h : MapI w b' l') (h' : MapR w b r l todo) : b' ≠ r := by
  rintro rfl
  obtain ⟨_, _, _, _, _, _, _, _, _, _, h6, _⟩ := h'
  obtain ⟨es, cl, he, _⟩ := h
  rw [he] at h6
  cases h6
theorem Turns.cut {F : Nat → Prop} {w w' : World} (h : Turns F w w') : Turns (fun k => F k ∧ k < w.heap.size) w w' := ⟨h.os, h.tape, h.output, h.size, fun k hk hF => h.block k hk fun e => hF ⟨e, hk⟩⟩
/-- A table that stands, in later colours. -/
theorem TabAt.on {hu : Nat} {c c' : Nat → Nat} {w w' : World} {g bm : Nat} {T : List (Int × Cli)} {F : Nat → Prop} (h : TabAt hu c w g bm T) (hT : Turns F w w') (hF : ∀ k, k < w.heap.size → F k → c k % 1000 ≠ hu) (hc : ∀ k, k < w.heap.size → c' k = c k) : TabAt hu c' w' g bm T :=
  (h.re hc).turns hT.cut fun k hk => by rw [hc k hk.2]; exact hF k hk.2 hk.1
theorem CliAt.on {x : Nat} {c c' : Nat → Nat} {w w' : World} {C : Cli} {F : Nat → Prop} (h : CliAt c x w C) (hT : Turns F w w') (hF : ∀ k, k < w.heap.size → F k → c k ≠ x) (hc : ∀ k, k < w.heap.size → c' k = c k) : CliAt c' x w' C :=
  (h.re hc).turns hT.cut fun k hk => by rw [hc k hk.2]; exact hF k hk.2 hk.1
theorem mergeAll {K : World → Prop} {ho hs : Nat} {c : Nat → Nat} {go gs bms r : Nat} {Ts : List (Int × Cli)} {w : World} {V : Int → VC} {X : Int → XC} {N B : Nat} (hsrc : TabAt hs c w gs bms Ts) (hsee : ∀ id, SeesO (getK id Ts) (V id)) (hgood : ∀ id, GoodV (V id))
    (hr : MapR w bms r (Ts.map fun p => (p.1, .pointer (some ⟨p.2.gc, 0, none⟩))) (Ts.map (·.1))) (hrz : c r = 0) (hX : TabX ho c w go X N B) (hX0 : ∀ id, 0 ≤ (X id).1) (hne : ho ≠ hs) (hN : N + Ts.length < 1000000) (hB : B ≤ 100)
    (k : ∀ w' c', (∀ j, j < w.heap.size → c' j = c j) → TabX ho c' w' go (fun id => overX (X id) (V id)) (N + Ts.length) (B + 4) → Turns (fun j => Dh ho c j ∨ j = r) w w' → K w') :
    LoopP (fun J_1 vs_1 w =>
      LiftP Try.prog (Instr.next (.pointer (some ⟨r, 0, none⟩)) false 0) (fun v29 w =>
      LiftP Try.prog (Instr.extract v29 0) (fun v30 w =>
      CondP v30 (fun w =>
        LiftP Try.prog (Instr.entry (.pointer (some ⟨r, 0, none⟩))) (fun v31 w =>
      LiftP Try.prog (Instr.extract v31 0) (fun v32 w =>
      LiftP Try.prog (Instr.extract v31 1) (fun v33 w =>
      CallP Try.prog 26 #[.pointer (some ⟨go, 0, none⟩), v32] (fun v36 w =>
      DrawP (fun S w =>
      YieldN Try.prog S (nilChk v36) (fun v39 w =>
      YieldP Try.prog S (Instr.fieldAt 68 v39 0) (fun v40 w =>
      YieldP Try.prog S (Instr.loadAt 3 v40) (fun v41 w =>
      YieldN Try.prog S (nilChk v33) (fun v43 w =>
      YieldP Try.prog S (Instr.fieldAt 68 v43 0) (fun v44 w =>
      YieldP Try.prog S (Instr.loadAt 3 v44) (fun v45 w =>
      YieldN Try.prog S (builtin Go.Builtin.max #[3, 3] 3 #[false, false] #[v41, v45]) (fun v46 w =>
      YieldN Try.prog S (nilChk v36) (fun v47 w =>
      YieldP Try.prog S (Instr.fieldAt 68 v47 0) (fun v48 w =>
      LiftU Try.prog (Instr.storeAt 3 v48 v46) (fun v_ w =>
      NextP Try.prog (nilChk v33) (fun v50 w =>
      LiftP Try.prog (Instr.fieldAt 68 v50 1) (fun v51 w =>
      LiftP Try.prog (Instr.loadAt 66 v51) (fun v52 w =>
      LiftP Try.prog (Instr.range 66 v52) (fun v53 w =>
      LoopP (fun J_2 vs_2 w =>
        LiftP Try.prog (Instr.next v53 false 0) (fun v54 w =>
        LiftP Try.prog (Instr.extract v54 0) (fun v55 w =>
        CondP v55 (fun w =>
          LiftP Try.prog (Instr.entry v53) (fun v56 w =>
        LiftP Try.prog (Instr.extract v56 0) (fun v57 w =>
        LiftP Try.prog (Instr.extract v56 1) (fun v58 w =>
        LiftP Try.prog (Instr.alloc 27 true (.tuple #[])) (fun v12 w =>
        LiftU Try.prog (Instr.storeAt 27 v12 v58) (fun v__1 w =>
        DrawP (fun S w =>
        YieldN Try.prog S (nilChk v36) (fun v60 w =>
        YieldP Try.prog S (Instr.fieldAt 68 v60 1) (fun v61 w =>
        YieldP Try.prog S (Instr.loadAt 66 v61) (fun v62 w =>
        YieldP Try.prog S (Instr.loadAt 27 v12) (fun v64 w =>
        ActP S (fun K w => CallP Try.prog 27 #[v64] K w) (fun S v65 w =>
        LiftU Try.prog (Instr.mapUpdate 66 v62 v57 v65) (fun v__2 w =>
        J_2 [] w) w) w) w) w) w) w) w) w) w) w) w) w) (fun w =>
          J_1 [] w) w) w) w) [] w) w) w) w) w) w) w) w) w) w) w) w) w) w) w) w) w) w) w) w) K w) w) w) [] w := by
  obtain ⟨T0, ⟨bm0, hT0⟩, hN0, hB0, hsh0⟩ := hX.out
  obtain ⟨hh1, hh2⟩ := hT0.hh
  obtain ⟨hs1, hs2⟩ := hsrc.hh
  refine LoopP.inv0n (fun n w' => ∃ (todo : List Int) (c' : Nat → Nat) (T : List (Int × Cli)), todo.length = n ∧ (∀ j, j < w.heap.size → c' j = c j) ∧ TabC ho c' w' go T ∧ T.length + todo.length ≤ N + Ts.length ∧ (∀ p ∈ T, p.2.l.length ≤ B + 4 ∧ (p.1 ∈ todo → p.2.l.length ≤ B)) ∧
      (∀ id, ShowsO (getK id T) (if id ∈ todo then X id else overX (X id) (V id))) ∧ MapR w' bms r (Ts.map fun p => (p.1, .pointer (some ⟨p.2.gc, 0, none⟩))) todo ∧ Turns (fun j => Dh ho c j ∨ j = r) w w') (Ts.map (·.1)).length
    ⟨Ts.map (·.1), c, T0, rfl, fun _ _ => rfl, ⟨bm0, hT0⟩, by simp; omega, fun p hp => ⟨by have := hB0 p hp; omega, fun _ => hB0 p hp⟩, fun id => ?_, hr, Turns.refl _ _⟩ ?_
  · split
    · exact hsh0 id
    · rename_i hn
      have h0 := hsee id
      have hnone : getK id Ts = none := getK_none_of id Ts fun p hp e => hn (List.mem_map.2 ⟨p, hp, e⟩)
      rw [hnone] at h0
      have hv : V id = (0, []) := h0
      rw [hv, overX_none _ (hX0 id)]
      exact hsh0 id
  rintro n w1 ⟨todo, c1, T, rfl, hc1, ⟨bm, hT⟩, hlen, hBs, hsh, hm1, hT1⟩ J hJ
  refine nxt hm1 (fun e => ?_) ?_
  · subst e
    (repeat (first | (with_reducible refine nck ?_) | (with_reducible refine cdT ?_) | (with_reducible refine cdF ?_) | (with_reducible refine gdY ?_) | (with_reducible refine gdFT ?_) | (with_reducible refine gdTF ?_) | (with_reducible refine gdU ?_) | (with_reducible refine gaY ?_) | (with_reducible refine gaFT ?_) | (with_reducible refine gaTF ?_) | (with_reducible refine pickT ?_) | (with_reducible refine pickF ?_) | (with_reducible refine bi_lss_t (by omega) ?_) | (with_reducible refine bi_lss_f (by omega) ?_) | (with_reducible refine bi_add64 (by omega) ?_) | (with_reducible refine bi_sub64 (by omega) ?_) | (with_reducible refine bi_eql_t (by omega) ?_) | (with_reducible refine bi_eql_f (by omega) ?_) | (with_reducible refine bi_neq_t (by omega) ?_) | (with_reducible refine bi_neq_f (by omega) ?_) | (with_reducible refine bi_gtr_t (by omega) ?_) | (with_reducible refine bi_gtr_f (by omega) ?_) | (with_reducible refine bi_leq_t (by omega) ?_) | (with_reducible refine bi_leq_f (by omega) ?_) | (with_reducible refine bi_geq_t (by omega) ?_) | (with_reducible refine bi_geq_f (by omega) ?_) | (with_reducible refine bi_xt0 ?_) | (with_reducible refine bi_xt1 ?_) | (with_reducible refine bi_xt2 ?_) | (with_reducible refine bi_xt3 ?_) | (with_reducible refine bi_T ?_) | (with_reducible refine bi_F ?_) | (with_reducible refine bi_not ?_) | (with_reducible refine bi_and ?_) | (with_reducible refine bi_or ?_) | (with_reducible refine bi_xor ?_) | (with_reducible refine bi_shr (by omega) (by decide) ?_) | (with_reducible refine bi_shl (by omega) (by decide) ?_) | (with_reducible refine bi_quo64 (by omega) ?_) | (with_reducible refine bi_rem64 (by omega) ?_) | (with_reducible refine bi_mul64 (by omega) ?_) | (with_reducible refine bi_neg ?_) | (with_reducible refine bi_un_xor32 ?_) | (with_reducible refine bi_add ?_) | (with_reducible refine bi_sub ?_) | (with_reducible refine bi_mul ?_) | (with_reducible refine bi_quo (by decide) ?_) | (with_reducible refine bi_rem (by decide) ?_)))
    refine k _ c1 hc1 ⟨T, ⟨bm, hT⟩, by simpa using hlen, fun p hp => (hBs p hp).1, fun id => ?_⟩ hT1
    have := hsh id
    rwa [if_neg (by simp)] at this
  · intro id v w2 hid hg hm2 hT2 hent
    obtain ⟨Cs, hgs, rfl⟩ := ptr_get hg
    have hms := getK_mem _ _ _ hgs
    have hTw2 : Turns (fun j => Dh ho c j ∨ j = r) w w2 := hT1.trans (hT2.mono fun j _ e => .inl (.inr e))
    have hsz2 := hTw2.size
    have hsrc2 : TabAt hs c w2 gs bms Ts := hsrc.turns hTw2 (fun j hj => by
      rcases hj with h | h
      · rw [h]; exact hne
      · rw [h, hrz]; omega)
    have hidr := hsrc.keys hms
    have hrl := hr.ltr
    have hT2o : TabAt ho c1 w2 go bm T := hT.turns hT2 (fun j hj => by rw [hj, hc1 r hrl, hrz]; omega)
    (repeat (first | (with_reducible refine nck ?_) | (with_reducible refine cdT ?_) | (with_reducible refine cdF ?_) | (with_reducible refine gdY ?_) | (with_reducible refine gdFT ?_) | (with_reducible refine gdTF ?_) | (with_reducible refine gdU ?_) | (with_reducible refine gaY ?_) | (with_reducible refine gaFT ?_) | (with_reducible refine gaTF ?_) | (with_reducible refine pickT ?_) | (with_reducible refine pickF ?_) | (with_reducible refine bi_lss_t (by omega) ?_) | (with_reducible refine bi_lss_f (by omega) ?_) | (with_reducible refine bi_add64 (by omega) ?_) | (with_reducible refine bi_sub64 (by omega) ?_) | (with_reducible refine bi_eql_t (by omega) ?_) | (with_reducible refine bi_eql_f (by omega) ?_) | (with_reducible refine bi_neq_t (by omega) ?_) | (with_reducible refine bi_neq_f (by omega) ?_) | (with_reducible refine bi_gtr_t (by omega) ?_) | (with_reducible refine bi_gtr_f (by omega) ?_) | (with_reducible refine bi_leq_t (by omega) ?_) | (with_reducible refine bi_leq_f (by omega) ?_) | (with_reducible refine bi_geq_t (by omega) ?_) | (with_reducible refine bi_geq_f (by omega) ?_) | (with_reducible refine bi_xt0 ?_) | (with_reducible refine bi_xt1 ?_) | (with_reducible refine bi_xt2 ?_) | (with_reducible refine bi_xt3 ?_) | (with_reducible refine bi_T ?_) | (with_reducible refine bi_F ?_) | (with_reducible refine bi_not ?_) | (with_reducible refine bi_and ?_) | (with_reducible refine bi_or ?_) | (with_reducible refine bi_xor ?_) | (with_reducible refine bi_shr (by omega) (by decide) ?_) | (with_reducible refine bi_shl (by omega) (by decide) ?_) | (with_reducible refine bi_quo64 (by omega) ?_) | (with_reducible refine bi_rem64 (by omega) ?_) | (with_reducible refine bi_mul64 (by omega) ?_) | (with_reducible refine bi_neg ?_) | (with_reducible refine bi_un_xor32 ?_) | (with_reducible refine bi_add ?_) | (with_reducible refine bi_sub ?_) | (with_reducible refine bi_mul ?_) | (with_reducible refine bi_quo (by decide) ?_) | (with_reducible refine bi_rem (by decide) ?_)))
    refine lift hent ?_
    (repeat (first | (with_reducible refine nck ?_) | (with_reducible refine cdT ?_) | (with_reducible refine cdF ?_) | (with_reducible refine gdY ?_) | (with_reducible refine gdFT ?_) | (with_reducible refine gdTF ?_) | (with_reducible refine gdU ?_) | (with_reducible refine gaY ?_) | (with_reducible refine gaFT ?_) | (with_reducible refine gaTF ?_) | (with_reducible refine pickT ?_) | (with_reducible refine pickF ?_) | (with_reducible refine bi_lss_t (by omega) ?_) | (with_reducible refine bi_lss_f (by omega) ?_) | (with_reducible refine bi_add64 (by omega) ?_) | (with_reducible refine bi_sub64 (by omega) ?_) | (with_reducible refine bi_eql_t (by omega) ?_) | (with_reducible refine bi_eql_f (by omega) ?_) | (with_reducible refine bi_neq_t (by omega) ?_) | (with_reducible refine bi_neq_f (by omega) ?_) | (with_reducible refine bi_gtr_t (by omega) ?_) | (with_reducible refine bi_gtr_f (by omega) ?_) | (with_reducible refine bi_leq_t (by omega) ?_) | (with_reducible refine bi_leq_f (by omega) ?_) | (with_reducible refine bi_geq_t (by omega) ?_) | (with_reducible refine bi_geq_f (by omega) ?_) | (with_reducible refine bi_xt0 ?_) | (with_reducible refine bi_xt1 ?_) | (with_reducible refine bi_xt2 ?_) | (with_reducible refine bi_xt3 ?_) | (with_reducible refine bi_T ?_) | (with_reducible refine bi_F ?_) | (with_reducible refine bi_not ?_) | (with_reducible refine bi_and ?_) | (with_reducible refine bi_or ?_) | (with_reducible refine bi_xor ?_) | (with_reducible refine bi_shr (by omega) (by decide) ?_) | (with_reducible refine bi_shl (by omega) (by decide) ?_) | (with_reducible refine bi_quo64 (by omega) ?_) | (with_reducible refine bi_rem64 (by omega) ?_) | (with_reducible refine bi_mul64 (by omega) ?_) | (with_reducible refine bi_neg ?_) | (with_reducible refine bi_un_xor32 ?_) | (with_reducible refine bi_add ?_) | (with_reducible refine bi_sub ?_) | (with_reducible refine bi_mul ?_) | (with_reducible refine bi_quo (by decide) ?_) | (with_reducible refine bi_rem (by decide) ?_)))
    refine (client_tab c1 w2 go T id ⟨bm, hT2o⟩ hidr (by omega)).mono ?_
    rintro _ w3 ⟨C, T', rfl, hx, hT', c3, hc3, ⟨bm', h3⟩, hT3⟩
    have hsz3 := hT3.size
    have hCo := (h3.el _ (getK_mem _ _ _ hx)).2
    simp only at hCo
    have hT13 : Turns (fun j => Dh ho c j ∨ j = r) w w3 := hTw2.trans (hT3.mono fun j hj e => by
      rcases Nat.lt_or_ge j w.heap.size with hlt | hge
      · exact .inl (.inl (by rw [Dh, ← hc1 j hlt]; exact e))
      · exact .inr hge)
    have hc3w : ∀ j, j < w.heap.size → c3 j = c j := fun j hj => by rw [hc3 j (by omega), hc1 j hj]
    have hrF : ∀ j, j < w.heap.size → (Dh ho c j ∨ j = r) → c j % 1000 ≠ hs := fun j _ hj => by
      rcases hj with h | h
      · rw [h]; exact hne
      · rw [h, hrz]; omega
    have hsrc3 : TabAt hs c3 w3 gs bms Ts := hsrc.on hT13 hrF hc3w
    have hCs := (hsrc3.el _ hms).2
    simp only at hCs
    have hm3 := hm2.turns hT3 (fun e => by
      rw [Dh, hc1 bms hr.ltb, hsrc.huem] at e; omega) (fun e => by rw [Dh, hc1 r hrl, hrz] at e; omega)
    have hXid : Shows C (X id) := by
      have h0 := hsh id
      rw [if_pos hid] at h0
      cases hg0 : getK id T with
      | none =>
        rw [hg0] at hT' h0
        have hx0 : X id = x0 := h0
        rw [hx0]
        exact ⟨hT'.2.1, fun n => by rw [hT'.2.2]; rfl⟩
      | some C0 =>
        rw [hg0] at hT' h0
        rw [hT'.2]; exact h0
    have hsCs : Sees Cs (V id) := by
      have := hsee id
      rw [hgs] at this
      exact this
    have hgcne : C.gc ≠ Cs.gc := fun e => by
      have h1 := hCo.hue
      have h2 := hCs.hue
      rw [e] at h1
      have := congrArg (· % 1000) (h1.symm.trans h2)
      simp only [hueC_mod hh2, hueC_mod hs2] at this
      exact hne this
    have hdr : Below w3.heap.size w3 w3.drew := (Below.refl _ _).drew
    have e1 : ∀ w', (Blk w' C.gc 68 #[.int .i64 C.fl, .map (some C.br)] ∧ Blk w' Cs.gc 68 #[.int .i64 Cs.fl, .map (some Cs.br)]) → w'.cell? ⟨C.gc, 0, none⟩ = some (.int .i64 C.fl) := fun w' h => h.1.cell 0
    have e2 : ∀ w', (Blk w' C.gc 68 #[.int .i64 C.fl, .map (some C.br)] ∧ Blk w' Cs.gc 68 #[.int .i64 Cs.fl, .map (some Cs.br)]) → w'.cell? ⟨Cs.gc, 0, none⟩ = some (.int .i64 Cs.fl) := fun w' h => h.2.cell 0
    refine draw (fun w' => Blk w' C.gc 68 #[.int .i64 C.fl, .map (some C.br)] ∧ Blk w' Cs.gc 68 #[.int .i64 Cs.fl, .map (some Cs.br)]) ⟨hCo.blk.below' hdr, hCs.blk.below' hdr⟩ ?_
    (repeat (first | (with_reducible refine yfd k0 (by decide) ?_) | (with_reducible refine yl1 one3 e1 ?_) | (with_reducible refine yl1 one3 e2 ?_) | (with_reducible refine ymx ?_) | (with_reducible refine ynck ?_) | (with_reducible refine nck ?_) | (with_reducible refine cdT ?_) | (with_reducible refine cdF ?_) | (with_reducible refine gdY ?_) | (with_reducible refine gdFT ?_) | (with_reducible refine gdTF ?_) | (with_reducible refine gdU ?_) | (with_reducible refine gaY ?_) | (with_reducible refine gaFT ?_) | (with_reducible refine gaTF ?_) | (with_reducible refine pickT ?_) | (with_reducible refine pickF ?_) | (with_reducible refine yi_lss_t (by omega) ?_) | (with_reducible refine yi_lss_f (by omega) ?_) | (with_reducible refine yi_add64 (by omega) ?_) | (with_reducible refine yi_sub64 (by omega) ?_) | (with_reducible refine yi_eql_t (by omega) ?_) | (with_reducible refine yi_eql_f (by omega) ?_) | (with_reducible refine yi_neq_t (by omega) ?_) | (with_reducible refine yi_neq_f (by omega) ?_) | (with_reducible refine yi_gtr_t (by omega) ?_) | (with_reducible refine yi_gtr_f (by omega) ?_) | (with_reducible refine yi_leq_t (by omega) ?_) | (with_reducible refine yi_leq_f (by omega) ?_) | (with_reducible refine yi_geq_t (by omega) ?_) | (with_reducible refine yi_geq_f (by omega) ?_) | (with_reducible refine yi_xt0 ?_) | (with_reducible refine yi_xt1 ?_) | (with_reducible refine yi_xt2 ?_) | (with_reducible refine yi_xt3 ?_) | (with_reducible refine yi_T ?_) | (with_reducible refine yi_F ?_) | (with_reducible refine yi_not ?_) | (with_reducible refine yi_and ?_) | (with_reducible refine yi_or ?_) | (with_reducible refine yi_xor ?_) | (with_reducible refine yi_shr (by omega) (by decide) ?_) | (with_reducible refine yi_shl (by omega) (by decide) ?_) | (with_reducible refine yi_quo64 (by omega) ?_) | (with_reducible refine yi_rem64 (by omega) ?_) | (with_reducible refine yi_mul64 (by omega) ?_) | (with_reducible refine yi_neg ?_) | (with_reducible refine yi_un_xor32 ?_) | (with_reducible refine yi_add ?_) | (with_reducible refine yi_sub ?_) | (with_reducible refine yi_mul ?_) | (with_reducible refine yi_quo (by decide) ?_) | (with_reducible refine yi_rem (by decide) ?_)))
    have hCo4 := hCo.below hdr
    refine st sz3 rfl (by rw [hCo4.blk.cell 0]; rfl) (hCo4.blk.frozen 0) ?_
    have hT4 := Turns.setCell (F := fun j => j = C.gc) (p := ⟨C.gc, 0, none⟩) (Turns.refl _ w3.drew) (.inl rfl) (.int .i64 (max C.fl Cs.fl))
    have hgb4 : C.gc ≠ C.br := map_ne hCo4.blk hCo4.map
    have hC5 : CliAt c3 (hueC ho id) (w3.drew.setCell ⟨C.gc, 0, none⟩ (.int .i64 (max C.fl Cs.fl))) ⟨C.gc, C.br, max C.fl Cs.fl, C.l⟩ :=
      ⟨hCo4.hue, hCo4.huem, hCo4.blk.set_ 0 _, hCo4.map.turns hT4 (fun e => hgb4 e.symm), fun p hp => (hCo4.el p hp).turns hT4 (fun j hj e => own_ne (hCo4.el p hp).own hCo4.blk (by decide) (by rw [← e]; exact hj))⟩
    have hT35 : Turns (fun j => j = C.gc) w3 (w3.drew.setCell ⟨C.gc, 0, none⟩ (.int .i64 (max C.fl Cs.fl))) := (Turns.of_below hdr).trans (hT4.mono fun j _ e => .inl e)
    generalize w3.drew.setCell ⟨C.gc, 0, none⟩ (.int .i64 (max C.fl Cs.fl)) = w5 at *
    have hueNe : hueC ho id ≠ hueC hs id := fun e => by
      have := congrArg (· % 1000) e
      simp only [hueC_mod hh2, hueC_mod hs2] at this
      exact hne this
    have hCs5 : CliAt c3 (hueC hs id) w5 Cs := hCs.turns hT35 (fun j hj e => hueNe (by rw [← hCo.hue, ← hj]; exact e))
    have hm5 := hm3.turns hT35 (fun e => map_ne hCo.blk hsrc3.map e.symm) (fun e => iter_ne hCo.blk hm3 e.symm)
    have f1 : w5.cell? ⟨Cs.gc, 1, none⟩ = some (.map (some Cs.br)) := hCs5.blk.cell 1
    (repeat (first | (with_reducible refine fd k1 (by decide) ?_) | (with_reducible refine ld one66 f1 ?_) | (with_reducible refine nck ?_) | (with_reducible refine cdT ?_) | (with_reducible refine cdF ?_) | (with_reducible refine gdY ?_) | (with_reducible refine gdFT ?_) | (with_reducible refine gdTF ?_) | (with_reducible refine gdU ?_) | (with_reducible refine gaY ?_) | (with_reducible refine gaFT ?_) | (with_reducible refine gaTF ?_) | (with_reducible refine pickT ?_) | (with_reducible refine pickF ?_) | (with_reducible refine bi_lss_t (by omega) ?_) | (with_reducible refine bi_lss_f (by omega) ?_) | (with_reducible refine bi_add64 (by omega) ?_) | (with_reducible refine bi_sub64 (by omega) ?_) | (with_reducible refine bi_eql_t (by omega) ?_) | (with_reducible refine bi_eql_f (by omega) ?_) | (with_reducible refine bi_neq_t (by omega) ?_) | (with_reducible refine bi_neq_f (by omega) ?_) | (with_reducible refine bi_gtr_t (by omega) ?_) | (with_reducible refine bi_gtr_f (by omega) ?_) | (with_reducible refine bi_leq_t (by omega) ?_) | (with_reducible refine bi_leq_f (by omega) ?_) | (with_reducible refine bi_geq_t (by omega) ?_) | (with_reducible refine bi_geq_f (by omega) ?_) | (with_reducible refine bi_xt0 ?_) | (with_reducible refine bi_xt1 ?_) | (with_reducible refine bi_xt2 ?_) | (with_reducible refine bi_xt3 ?_) | (with_reducible refine bi_T ?_) | (with_reducible refine bi_F ?_) | (with_reducible refine bi_not ?_) | (with_reducible refine bi_and ?_) | (with_reducible refine bi_or ?_) | (with_reducible refine bi_xor ?_) | (with_reducible refine bi_shr (by omega) (by decide) ?_) | (with_reducible refine bi_shl (by omega) (by decide) ?_) | (with_reducible refine bi_quo64 (by omega) ?_) | (with_reducible refine bi_rem64 (by omega) ?_) | (with_reducible refine bi_mul64 (by omega) ?_) | (with_reducible refine bi_neg ?_) | (with_reducible refine bi_un_xor32 ?_) | (with_reducible refine bi_add ?_) | (with_reducible refine bi_sub ?_) | (with_reducible refine bi_mul ?_) | (with_reducible refine bi_quo (by decide) ?_) | (with_reducible refine bi_rem (by decide) ?_)))
    refine rng und66 hCs5.map ?_
    intro w6 hm6 hb6
    have hr6 : (Cs.l.map fun p => (p.1, p.2.val)).map (·.1) = Cs.l.map (·.1) := by rw [List.map_map]; rfl
    rw [hr6] at hm6
    have hsz35 := hT35.size
    have hlC : C.l.length ≤ B := by
      cases hg0 : getK id T with
      | none => rw [hg0] at hT'; rw [hT'.2.2]; simp
      | some C0 =>
        rw [hg0] at hT'
        rw [hT'.2]
        exact (hBs _ (getK_mem _ _ _ hg0)).2 hid
    have hlCs : Cs.l.length ≤ 4 := by
      have := hsCs.l.length_eq
      have h4 := (hgood id).len
      simp only [absL, List.length_map] at this
      omega
    have hwf : ∀ p ∈ Cs.l, 0 ≤ p.1 ∧ p.1 ≤ 1099511627776 := fun p hp => by
      have : p.1 ∈ Cs.l.map (·.1) := List.mem_map.2 ⟨p, hp, rfl⟩
      rw [hsCs.keys.mem_iff] at this
      obtain ⟨q, hq, he⟩ := List.mem_map.1 this
      have := (hgood id).key q hq
      omega
    refine copyAll (Co := ⟨C.gc, C.br, max C.fl Cs.fl, C.l⟩) (hC5.below hb6) (hCs5.below hb6) hueNe hm6 (by simp only; omega) (by omega) hwf ?_
    intro w7 c7 lo hc7 h7 hget hlo hT7
    have hsz6 := hb6.size
    have hT37 : Turns (fun j => j = C.gc ∨ j = C.br) w3 w7 := ((hT35.mono fun j _ e => .inl e).trans (Turns.of_below hb6)).trans (hT7.mono fun j _ e => by
      rcases e with e | e
      · exact .inl (.inr e)
      · exact .inr (by rw [e]; omega))
    have hc37 : ∀ j, j < w3.heap.size → c7 j = c3 j := fun j hj => hc7 j (by omega)
    have hup : TabAt ho c7 w7 go bm' (setK id ⟨C.gc, C.br, max C.fl Cs.fl, lo⟩ T') := (h3.re hc37).upd hx hT37.cut (fun j hj => by
      rw [hc37 j hj.2]
      rcases hj.1 with e | e
      · rw [e]; exact hCo.hue
      · rw [e]; exact hCo.huem) h7 rfl
    have hT17 : Turns (fun j => Dh ho c j ∨ j = r) w w7 := hT13.trans (hT37.mono fun j hj e => by
      rcases Nat.lt_or_ge j w.heap.size with hlt | hge
      · refine .inl (.inl ?_)
        rw [Dh, ← hc3w j hlt]
        rcases e with e | e
        · rw [e, hCo.hue, hueC_mod hh2]
        · rw [e, hCo.huem, hueC_mod hh2]
      · exact .inr hge)
    have hm7 := hm3.turns hT37 (fun e => by
      rcases e with e | e
      · exact map_ne hCo.blk hsrc3.map e.symm
      · have h1 := hCo.huem
        rw [← e, hsrc3.huem] at h1
        exact hueC_ne hs id (by
          have := congrArg (· % 1000) h1
          simp only [hueC_mod hh2, Nat.mod_eq_of_lt hs2] at this
          exact absurd this.symm hne)) (fun e => by
      rcases e with e | e
      · exact iter_ne hCo.blk hm3 e.symm
      · exact iter_nem hCo.map hm3 e.symm)
    have hndT' := h3.nodup
    have hkeysT' : T'.length ≤ T.length + 1 := by
      cases hg0 : getK id T with
      | none => rw [hg0] at hT'; rw [hT'.1]; simp
      | some C0 => rw [hg0] at hT'; rw [hT'.1]; omega
    have hfl := filter_lt hid
    refine hJ _ _ hfl ⟨_, c7, setK id ⟨C.gc, C.br, max C.fl Cs.fl, lo⟩ T', rfl, fun j hj => by rw [hc37 j (by omega), hc3w j hj], ⟨bm', hup⟩, ?_, fun p hp => ?_, fun i => ?_, hm7, hT17⟩
    · rw [setK_len hx]; omega
    · rcases setK_mem' hndT' hp with rfl | ⟨hp, hpn⟩
      · simp only at hlo
        exact ⟨by simp only; omega, fun h => absurd h (by simp [List.mem_filter])⟩
      · have hpT : p ∈ T := by
          cases hg0 : getK id T with
          | none =>
            rw [hg0] at hT'
            rw [hT'.1] at hp
            rcases List.mem_append.1 hp with hp | hp
            · exact hp
            · simp only [List.mem_cons, List.not_mem_nil, or_false] at hp
              subst hp
              exact absurd rfl hpn
          | some C0 => rw [hg0] at hT'; rw [hT'.1] at hp; exact hp
        exact ⟨(hBs p hpT).1, fun h => (hBs p hpT).2 ((List.mem_filter.1 h).1)⟩
    · by_cases hi : i = id
      · subst hi
        rw [getK_setK_same, if_neg (by simp [List.mem_filter])]
        refine ⟨?_, fun n => ?_⟩
        · show max C.fl Cs.fl = max (X i).1 (V i).1
          rw [hXid.fl, hsCs.fl]
        · show (getK n lo).map Rp.abs = (getK n (V i).2).or ((X i).2 n)
          rw [hget n, hsCs.get (hgood i) n, hXid.get n]
      · rw [getK_setK_other _ _ hi]
        have hgi : getK i T' = getK i T := by
          cases hg0 : getK id T with
          | none => rw [hg0] at hT'; rw [hT'.1, getK_app_other _ _ hi]
          | some C0 => rw [hg0] at hT'; rw [hT'.1]
        rw [hgi]
        have h0 := hsh i
        have : (i ∈ todo.filter fun j => decide (j ≠ id)) ↔ i ∈ todo := by simp [List.mem_filter, hi]
        simp only [this]
        exact h0
end Go.Proofs.Ytmnaggdhkggjhaa.E
