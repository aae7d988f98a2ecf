import Derived.Test.YtcihbjempijhpaaM8
/- The reference's table of locks: in memory; At, New, Blocks, Holds, Ids, Ranges. -/
namespace Go.Proofs.Ytcihbjempijhpaa.E
open Go Go.RowKit
set_option linter.unusedSimpArgs false
set_option linter.unusedVariables false

theorem und76 : Try.prog.underlying 76 = some (.slice 85) := by kernel_rfl
theorem und37' : Try.prog.underlying 37 = some (.slice 3) := by kernel_rfl
theorem one76 : oneB Try.prog 76 = true := by kernel_rfl
theorem sz76 : (Try.prog.info? 76).map (·.size) = some 1 := by kernel_rfl
theorem sz85 : (Try.prog.info? 85).map (·.size) = some 3 := by kernel_rfl
theorem agg85 : aggB Try.prog 85 = true := by kernel_rfl
theorem inf85 : (Try.prog.info? 85).map (fun i => (i.zero, i.size, i.bytes)) = some (some (.agg #[.int .i64 0, .slice none 0 0, .int .i64 0]), 3, 40) := by kernel_rfl
theorem inf3 : (Try.prog.info? 3).map (fun i => (i.zero, i.size, i.bytes)) = some (some (.int .i64 0), 1, 8) := by kernel_rfl
theorem f0 : fofs Try.prog 78 0 = some (0, 1) := by kernel_rfl
theorem f1 : fofs Try.prog 78 1 = some (1, 1) := by kernel_rfl
theorem f2 : fofs Try.prog 78 2 = some (2, 1) := by kernel_rfl
theorem o0 : fofs Try.prog 85 0 = some (0, 1) := by kernel_rfl
theorem o1 : fofs Try.prog 85 1 = some (1, 1) := by kernel_rfl
theorem o2 : fofs Try.prog 85 2 = some (2, 1) := by kernel_rfl
structure Rk where
  id : Int
  v : Value
  L : List Rg
  new : Int
def rkF (x : Rk) : List Value := [.int .i64 x.id, x.v, .int .i64 x.new]
theorem rkF_len (x : Rk) : (rkF x).length = 3 := rfl
/-- A lock's ranges are never turned again: colour 999. -/
structure RkAt (c : Nat → Nat) (w : World) (x : Rk) : Prop where
  own : OwnR 2 23 w x.v x.L.length (x.L.flatMap rgF)
  hue : InC c 999 x.v
structure RfAt (hu : Nat) (c : Nat → Nat) (w : World) (g : Nat) (vL : Value) (le now : Int) (M : List Rk) : Prop where
  hh : 0 < hu ∧ hu < 999
  hue : c g = hu
  blk : Blk w g 78 #[.int .i64 le, .int .i64 now, vL]
  rowL : OwnR 3 85 w vL M.length (M.flatMap rkF)
  hueL : InC c hu vL
  el : ∀ x ∈ M, RkAt c w x
/-- What the reference knows of a number. -/
def findM (M : List Rk) (id : Int) : Option Rk := M.find? fun x => decide (x.id = id)
def absM (le now : Int) (M : List Rk) : LkV := fun id => (findM M id).map fun x => (x.L, le - (now - x.new))
def RfS (hu : Nat) (c : Nat → Nat) (w : World) (g : Nat) (le : Int) (n : Nat) (V : LkV) : Prop :=
  ∃ vL now M, RfAt hu c w g vL le now M ∧ (M.Pairwise fun x y => x.id < y.id) ∧ absM le now M = V ∧ M.length ≤ n ∧ 0 ≤ now ∧ now ≤ n ∧ ∀ x ∈ M, 0 ≤ x.new ∧ x.new ≤ now
def LeftR (hu : Nat) (c : Nat → Nat) (w : World) (g : Nat) (le : Int) (n : Nat) (V : LkV) (w' : World) : Prop := ∃ c', (∀ k, k < w.heap.size → c' k = c k) ∧ RfS hu c' w' g le n V ∧ Turns (fun k => c k = hu) w w'
section
variable {hu : Nat} {c c' : Nat → Nat} {w w' : World} {g : Nat} {vL : Value} {le now : Int} {M : List Rk} {x : Rk} {n : Nat} {V : LkV}
theorem RkAt.rd (h : RkAt c w x) : RgR w [x.v] x.L := h.own.rd rgF_len fun _ _ => rfl
theorem RkAt.turns {G : Nat → Prop} (h : RkAt c w x) (hT : Turns G w w') (hG : ∀ k, G k → c k ≠ 999) : RkAt c w' x := ⟨h.own.turns hT fun k hk e => hG k e (h.hue k hk), h.hue⟩
theorem RkAt.below (h : RkAt c w x) (hb : Below w.heap.size w w') : RkAt c w' x := h.turns (G := fun _ => False) (Turns.of_below hb) fun _ h => h.elim
theorem RkAt.re (h : RkAt c w x) (hc : ∀ k, k < w.heap.size → c' k = c k) : RkAt c' w x := ⟨h.own, fun k hk => by rw [hc k (h.own.lt hk)]; exact h.hue k hk⟩
theorem RkAt.one (h : RkAt c w x) : x.v.oneCell' = true := by obtain ⟨A, n, e, _⟩ := h.own.slice; rw [e]; rfl
theorem rkF_one (h : RkAt c w x) : ∀ u ∈ rkF x, u.oneCell' = true := by
  intro u hu
  simp only [rkF, List.mem_cons, List.not_mem_nil, or_false] at hu
  rcases hu with rfl | rfl | rfl <;> first | rfl | exact h.one
theorem RfAt.turns {G : Nat → Prop} (h : RfAt hu c w g vL le now M) (hT : Turns G w w') (hG : ∀ k, G k → c k ≠ hu ∧ c k ≠ 999) : RfAt hu c w' g vL le now M :=
  ⟨h.hh, h.hue, h.blk.turns hT (fun e => (hG g e).1 h.hue), h.rowL.turns hT fun k hk e => (hG k e).1 (h.hueL k hk), h.hueL, fun x hx => (h.el x hx).turns hT fun k hk => (hG k hk).2⟩
theorem RfAt.below (h : RfAt hu c w g vL le now M) (hb : Below w.heap.size w w') : RfAt hu c w' g vL le now M := h.turns (G := fun _ => False) (Turns.of_below hb) fun _ h => h.elim
theorem RfAt.re (h : RfAt hu c w g vL le now M) (hc : ∀ k, k < w.heap.size → c' k = c k) : RfAt hu c' w g vL le now M :=
  ⟨h.hh, (hc g h.blk.lt).trans h.hue, h.blk, h.rowL, fun k hk => by rw [hc k (h.rowL.lt hk)]; exact h.hueL k hk, fun x hx => (h.el x hx).re hc⟩
theorem RfS.turns {G : Nat → Prop} (h : RfS hu c w g le n V) (hT : Turns G w w') (hG : ∀ k, G k → c k ≠ hu ∧ c k ≠ 999) : RfS hu c w' g le n V := by
  obtain ⟨vL, now, M, h, q⟩ := h; exact ⟨vL, now, M, h.turns hT hG, q⟩
theorem RfS.below (h : RfS hu c w g le n V) (hb : Below w.heap.size w w') : RfS hu c w' g le n V := by
  obtain ⟨vL, now, M, h, q⟩ := h; exact ⟨vL, now, M, h.below hb, q⟩
theorem RfS.re (h : RfS hu c w g le n V) (hc : ∀ k, k < w.heap.size → c' k = c k) : RfS hu c' w g le n V := by
  obtain ⟨vL, now, M, h, q⟩ := h; exact ⟨vL, now, M, h.re hc, q⟩
theorem RfS.mono {m : Nat} (h : RfS hu c w g le n V) (hm : n ≤ m) : RfS hu c w g le m V := by
  obtain ⟨vL, now, M, h, q1, q2, q3, q4, q5, q6⟩ := h; exact ⟨vL, now, M, h, q1, q2, by omega, q4, by omega, q6⟩
theorem RfAt.at (h : RfAt hu c w g vL le now M) (i : Nat) (hi : i < M.length) : ∃ gL cL, vL = .slice (some ⟨gL, 0, none⟩) M.length cL ∧ w.cell? ⟨gL, i * 3 + 0, none⟩ = some (.int .i64 M[i].id) ∧ w.cell? ⟨gL, i * 3 + 1, none⟩ = some M[i].v ∧ w.cell? ⟨gL, i * 3 + 2, none⟩ = some (.int .i64 M[i].new) ∧ (∀ j u, (rkF M[i])[j]? = some u → w.cell? ⟨gL, i * 3 + j, none⟩ = some u) := by
  obtain ⟨gL, cL, e, hc⟩ := rowAt rkF_len h.rowL i hi (by decide)
  exact ⟨gL, cL, e, hc 0 _ rfl, hc 1 _ rfl, hc 2 _ rfl, hc⟩
theorem find_at {i : Nat} (hp : M.Pairwise fun x y => x.id < y.id) (hi : i < M.length) : findM M M[i].id = some M[i] := by
  unfold findM
  rw [List.find?_eq_some_iff_getElem]
  refine ⟨by simp, i, hi, rfl, fun j hj => ?_⟩
  have := List.pairwise_iff_getElem.1 hp j i (by omega) hi hj
  simp only [Bool.not_eq_true', decide_eq_false_iff_not]
  omega
theorem find_none {id : Int} (h : ∀ x ∈ M, x.id ≠ id) : findM M id = none := by
  unfold findM
  rw [List.find?_eq_none]
  intro x hx
  simpa using h x hx
theorem find_some {id : Int} (h : findM M id = some x) : x ∈ M ∧ x.id = id := by
  unfold findM at h
  exact ⟨List.mem_of_find?_eq_some h, by simpa using List.find?_some h⟩
end
theorem refNew32 (hu : Nat) (hh : 0 < hu ∧ hu < 999) (c : Nat → Nat) (a : Int) (w : World) : CallP Try.prog 32 #[.int .i64 a] (fun r w' => ∃ g c', r = .pointer (some ⟨g, 0, none⟩) ∧ (∀ k, k < w.heap.size → c' k = c k) ∧ RfS hu c' w' g (max a 1) 0 (fun _ => none) ∧ Below w.heap.size w w') w := by
  refine ⟨S32.calls _ _ _ ?_⟩
  unfold S32
  refine JoinP.cut (fun xs w' => xs = [.int .i64 (max a 1)] ∧ w = w') (fun J hJ => ?_) (fun xs w' hI => ?_)
  · refine bi_lss_c (fun h => ?_) (fun h => ?_)
    · (repeat with_reducible first | refine nck ?_ | refine cdT ?_ | refine cdF ?_ | refine gdY ?_ | refine gdFT ?_ | refine gdTF ?_ | refine gdU ?_ | refine gaY ?_ | refine gaFT ?_ | refine gaTF ?_ | refine pickT ?_ | refine pickF ?_ | refine bi_lss_t (by omega) ?_ | refine bi_lss_f (by omega) ?_ | refine bi_add64 (by omega) ?_ | refine bi_sub64 (by omega) ?_ | refine bi_eql_t (by omega) ?_ | refine bi_eql_f (by omega) ?_ | refine bi_neq_t (by omega) ?_ | refine bi_neq_f (by omega) ?_ | refine bi_gtr_t (by omega) ?_ | refine bi_gtr_f (by omega) ?_ | refine bi_leq_t (by omega) ?_ | refine bi_leq_f (by omega) ?_ | refine bi_geq_t (by omega) ?_ | refine bi_geq_f (by omega) ?_ | refine bi_xt0 ?_ | refine bi_xt1 ?_ | refine bi_xt2 ?_ | refine bi_xt3 ?_ | refine bi_T ?_ | refine bi_F ?_ | refine bi_not ?_ | refine bi_and ?_ | refine bi_or ?_ | refine bi_xor ?_ | refine bi_shr (by omega) (by decide) ?_ | refine bi_shl (by omega) (by decide) ?_ | refine bi_quo64 (by omega) ?_ | refine bi_rem64 (by omega) ?_ | refine bi_mul64 (by omega) ?_ | refine bi_neg ?_ | refine bi_un_xor32 ?_ | refine bi_add ?_ | refine bi_sub ?_ | refine bi_mul ?_ | refine bi_quo (by decide) ?_ | refine bi_rem (by decide) ?_)
      exact hJ _ _ ⟨by rw [show max a 1 = 1 by omega], rfl⟩
    · (repeat with_reducible first | refine nck ?_ | refine cdT ?_ | refine cdF ?_ | refine gdY ?_ | refine gdFT ?_ | refine gdTF ?_ | refine gdU ?_ | refine gaY ?_ | refine gaFT ?_ | refine gaTF ?_ | refine pickT ?_ | refine pickF ?_ | refine bi_lss_t (by omega) ?_ | refine bi_lss_f (by omega) ?_ | refine bi_add64 (by omega) ?_ | refine bi_sub64 (by omega) ?_ | refine bi_eql_t (by omega) ?_ | refine bi_eql_f (by omega) ?_ | refine bi_neq_t (by omega) ?_ | refine bi_neq_f (by omega) ?_ | refine bi_gtr_t (by omega) ?_ | refine bi_gtr_f (by omega) ?_ | refine bi_leq_t (by omega) ?_ | refine bi_leq_f (by omega) ?_ | refine bi_geq_t (by omega) ?_ | refine bi_geq_f (by omega) ?_ | refine bi_xt0 ?_ | refine bi_xt1 ?_ | refine bi_xt2 ?_ | refine bi_xt3 ?_ | refine bi_T ?_ | refine bi_F ?_ | refine bi_not ?_ | refine bi_and ?_ | refine bi_or ?_ | refine bi_xor ?_ | refine bi_shr (by omega) (by decide) ?_ | refine bi_shl (by omega) (by decide) ?_ | refine bi_quo64 (by omega) ?_ | refine bi_rem64 (by omega) ?_ | refine bi_mul64 (by omega) ?_ | refine bi_neg ?_ | refine bi_un_xor32 ?_ | refine bi_add ?_ | refine bi_sub ?_ | refine bi_mul ?_ | refine bi_quo (by decide) ?_ | refine bi_rem (by decide) ?_)
      exact hJ _ _ ⟨by rw [show max a 1 = a by omega], rfl⟩
  · obtain ⟨rfl, rfl⟩ := hI
    dsimp only [List.headD_cons, List.tail_cons]
    refine bd (cells := #[.int .i64 (max a 1), .int .i64 0, .slice none 0 0]) (by kernel_rfl) ?_
    refine bxB ?_
    intro g w1 hg hB hb
    exact ⟨g, col c w.heap.size hu, rfl, col_lt _ _ _, ⟨_, 0, [], ⟨hh, col_ge _ _ _ (by omega), hB, ⟨rfl, .inl ⟨rfl, rfl⟩⟩, (fun k hk => by cases hk), (fun x hx => by simp at hx)⟩, List.Pairwise.nil, rfl, Nat.le_refl _, Int.le_refl _, Int.le_refl _, (fun x hx => by simp at hx)⟩, hb⟩
theorem refAt64 {hu : Nat} {c : Nat → Nat} {w : World} {g : Nat} {vL : Value} {le now : Int} {M : List Rk} (id : Int) (h : RfAt hu c w g vL le now M) (hl : M.length ≤ 100000) :
    CallP Try.prog 64 #[.pointer (some ⟨g, 0, none⟩), .int .i64 id] (fun r w' => ((∃ (i : Nat) (hi : i < M.length), r = .int .i64 i ∧ M[i].id = id) ∨ (r = .int .i64 (-1) ∧ ∀ x ∈ M, x.id ≠ id)) ∧ w = w') w := by
  refine ⟨S64.calls _ _ _ _ ?_⟩
  unfold S64
  have hL := h.rowL
  obtain ⟨A, cL, rfl, hc, hm⟩ := hL.slice
  have c2 : w.cell? ⟨g, 2, none⟩ = some (.slice A M.length cL) := h.blk.cell 2
  refine LoopP.inv1 (fun iv w' => ∃ i : Nat, i ≤ M.length ∧ iv = .int .i64 i ∧ (∀ x ∈ M.take i, x.id ≠ id) ∧ w = w') (fun iv _ => M.length - (intOf iv).toNat) ⟨0, by omega, rfl, by simp, rfl⟩ ?_
  rintro _ _ ⟨i, hi, rfl, hall, rfl⟩ J hJ
  dsimp only [List.headD_cons, List.tail_cons]
  (repeat with_reducible first | refine fd f2 (by decide) ?_ | refine ld one76 c2 ?_ | refine nck ?_ | refine cdT ?_ | refine cdF ?_ | refine gdY ?_ | refine gdFT ?_ | refine gdTF ?_ | refine gdU ?_ | refine gaY ?_ | refine gaFT ?_ | refine gaTF ?_ | refine pickT ?_ | refine pickF ?_ | refine bi_lss_t (by omega) ?_ | refine bi_lss_f (by omega) ?_ | refine bi_add64 (by omega) ?_ | refine bi_sub64 (by omega) ?_ | refine bi_eql_t (by omega) ?_ | refine bi_eql_f (by omega) ?_ | refine bi_neq_t (by omega) ?_ | refine bi_neq_f (by omega) ?_ | refine bi_gtr_t (by omega) ?_ | refine bi_gtr_f (by omega) ?_ | refine bi_leq_t (by omega) ?_ | refine bi_leq_f (by omega) ?_ | refine bi_geq_t (by omega) ?_ | refine bi_geq_f (by omega) ?_ | refine bi_xt0 ?_ | refine bi_xt1 ?_ | refine bi_xt2 ?_ | refine bi_xt3 ?_ | refine bi_T ?_ | refine bi_F ?_ | refine bi_not ?_ | refine bi_and ?_ | refine bi_or ?_ | refine bi_xor ?_ | refine bi_shr (by omega) (by decide) ?_ | refine bi_shl (by omega) (by decide) ?_ | refine bi_quo64 (by omega) ?_ | refine bi_rem64 (by omega) ?_ | refine bi_mul64 (by omega) ?_ | refine bi_neg ?_ | refine bi_un_xor32 ?_ | refine bi_add ?_ | refine bi_sub ?_ | refine bi_mul ?_ | refine bi_quo (by decide) ?_ | refine bi_rem (by decide) ?_)
  refine ln und76 ?_
  refine bi_lss_c (fun hlt => ?_) (fun hlt => ?_)
  · have hi' : i < M.length := by omega
    obtain ⟨gL, cL', he, d0, _⟩ := h.at i hi'
    cases he
    (repeat with_reducible first | refine fd f2 (by decide) ?_ | refine ld one76 c2 ?_ | refine ixG und76 sz85 i hi' ?_ | refine fdG o0 (by decide) ?_ | refine ld one3' d0 ?_ | refine nck ?_ | refine cdT ?_ | refine cdF ?_ | refine gdY ?_ | refine gdFT ?_ | refine gdTF ?_ | refine gdU ?_ | refine gaY ?_ | refine gaFT ?_ | refine gaTF ?_ | refine pickT ?_ | refine pickF ?_ | refine bi_lss_t (by omega) ?_ | refine bi_lss_f (by omega) ?_ | refine bi_add64 (by omega) ?_ | refine bi_sub64 (by omega) ?_ | refine bi_eql_t (by omega) ?_ | refine bi_eql_f (by omega) ?_ | refine bi_neq_t (by omega) ?_ | refine bi_neq_f (by omega) ?_ | refine bi_gtr_t (by omega) ?_ | refine bi_gtr_f (by omega) ?_ | refine bi_leq_t (by omega) ?_ | refine bi_leq_f (by omega) ?_ | refine bi_geq_t (by omega) ?_ | refine bi_geq_f (by omega) ?_ | refine bi_xt0 ?_ | refine bi_xt1 ?_ | refine bi_xt2 ?_ | refine bi_xt3 ?_ | refine bi_T ?_ | refine bi_F ?_ | refine bi_not ?_ | refine bi_and ?_ | refine bi_or ?_ | refine bi_xor ?_ | refine bi_shr (by omega) (by decide) ?_ | refine bi_shl (by omega) (by decide) ?_ | refine bi_quo64 (by omega) ?_ | refine bi_rem64 (by omega) ?_ | refine bi_mul64 (by omega) ?_ | refine bi_neg ?_ | refine bi_un_xor32 ?_ | refine bi_add ?_ | refine bi_sub ?_ | refine bi_mul ?_ | refine bi_quo (by decide) ?_ | refine bi_rem (by decide) ?_)
    refine bi_eql_c (fun h2 => ?_) (fun h2 => ?_)
    · (repeat with_reducible first | refine nck ?_ | refine cdT ?_ | refine cdF ?_ | refine gdY ?_ | refine gdFT ?_ | refine gdTF ?_ | refine gdU ?_ | refine gaY ?_ | refine gaFT ?_ | refine gaTF ?_ | refine pickT ?_ | refine pickF ?_ | refine bi_lss_t (by omega) ?_ | refine bi_lss_f (by omega) ?_ | refine bi_add64 (by omega) ?_ | refine bi_sub64 (by omega) ?_ | refine bi_eql_t (by omega) ?_ | refine bi_eql_f (by omega) ?_ | refine bi_neq_t (by omega) ?_ | refine bi_neq_f (by omega) ?_ | refine bi_gtr_t (by omega) ?_ | refine bi_gtr_f (by omega) ?_ | refine bi_leq_t (by omega) ?_ | refine bi_leq_f (by omega) ?_ | refine bi_geq_t (by omega) ?_ | refine bi_geq_f (by omega) ?_ | refine bi_xt0 ?_ | refine bi_xt1 ?_ | refine bi_xt2 ?_ | refine bi_xt3 ?_ | refine bi_T ?_ | refine bi_F ?_ | refine bi_not ?_ | refine bi_and ?_ | refine bi_or ?_ | refine bi_xor ?_ | refine bi_shr (by omega) (by decide) ?_ | refine bi_shl (by omega) (by decide) ?_ | refine bi_quo64 (by omega) ?_ | refine bi_rem64 (by omega) ?_ | refine bi_mul64 (by omega) ?_ | refine bi_neg ?_ | refine bi_un_xor32 ?_ | refine bi_add ?_ | refine bi_sub ?_ | refine bi_mul ?_ | refine bi_quo (by decide) ?_ | refine bi_rem (by decide) ?_)
      exact ⟨.inl ⟨i, hi', rfl, h2⟩, rfl⟩
    · (repeat with_reducible first | refine nck ?_ | refine cdT ?_ | refine cdF ?_ | refine gdY ?_ | refine gdFT ?_ | refine gdTF ?_ | refine gdU ?_ | refine gaY ?_ | refine gaFT ?_ | refine gaTF ?_ | refine pickT ?_ | refine pickF ?_ | refine bi_lss_t (by omega) ?_ | refine bi_lss_f (by omega) ?_ | refine bi_add64 (by omega) ?_ | refine bi_sub64 (by omega) ?_ | refine bi_eql_t (by omega) ?_ | refine bi_eql_f (by omega) ?_ | refine bi_neq_t (by omega) ?_ | refine bi_neq_f (by omega) ?_ | refine bi_gtr_t (by omega) ?_ | refine bi_gtr_f (by omega) ?_ | refine bi_leq_t (by omega) ?_ | refine bi_leq_f (by omega) ?_ | refine bi_geq_t (by omega) ?_ | refine bi_geq_f (by omega) ?_ | refine bi_xt0 ?_ | refine bi_xt1 ?_ | refine bi_xt2 ?_ | refine bi_xt3 ?_ | refine bi_T ?_ | refine bi_F ?_ | refine bi_not ?_ | refine bi_and ?_ | refine bi_or ?_ | refine bi_xor ?_ | refine bi_shr (by omega) (by decide) ?_ | refine bi_shl (by omega) (by decide) ?_ | refine bi_quo64 (by omega) ?_ | refine bi_rem64 (by omega) ?_ | refine bi_mul64 (by omega) ?_ | refine bi_neg ?_ | refine bi_un_xor32 ?_ | refine bi_add ?_ | refine bi_sub ?_ | refine bi_mul ?_ | refine bi_quo (by decide) ?_ | refine bi_rem (by decide) ?_)
      refine hJ _ _ ⟨i + 1, by omega, by simp, fun x hx => ?_, rfl⟩ (by simp [intOf]; omega)
      rcases mem_take_succ hi' hx with hx | rfl
      · exact hall x hx
      · exact h2
  · (repeat with_reducible first | refine nck ?_ | refine cdT ?_ | refine cdF ?_ | refine gdY ?_ | refine gdFT ?_ | refine gdTF ?_ | refine gdU ?_ | refine gaY ?_ | refine gaFT ?_ | refine gaTF ?_ | refine pickT ?_ | refine pickF ?_ | refine bi_lss_t (by omega) ?_ | refine bi_lss_f (by omega) ?_ | refine bi_add64 (by omega) ?_ | refine bi_sub64 (by omega) ?_ | refine bi_eql_t (by omega) ?_ | refine bi_eql_f (by omega) ?_ | refine bi_neq_t (by omega) ?_ | refine bi_neq_f (by omega) ?_ | refine bi_gtr_t (by omega) ?_ | refine bi_gtr_f (by omega) ?_ | refine bi_leq_t (by omega) ?_ | refine bi_leq_f (by omega) ?_ | refine bi_geq_t (by omega) ?_ | refine bi_geq_f (by omega) ?_ | refine bi_xt0 ?_ | refine bi_xt1 ?_ | refine bi_xt2 ?_ | refine bi_xt3 ?_ | refine bi_T ?_ | refine bi_F ?_ | refine bi_not ?_ | refine bi_and ?_ | refine bi_or ?_ | refine bi_xor ?_ | refine bi_shr (by omega) (by decide) ?_ | refine bi_shl (by omega) (by decide) ?_ | refine bi_quo64 (by omega) ?_ | refine bi_rem64 (by omega) ?_ | refine bi_mul64 (by omega) ?_ | refine bi_neg ?_ | refine bi_un_xor32 ?_ | refine bi_add ?_ | refine bi_sub ?_ | refine bi_mul ?_ | refine bi_quo (by decide) ?_ | refine bi_rem (by decide) ?_)
    have : i = M.length := by omega
    subst this
    rw [List.take_length] at hall
    exact ⟨.inr ⟨rfl, hall⟩, rfl⟩
theorem refBlocks38 {hu : Nat} {c : Nat → Nat} {w : World} {g n : Nat} {le : Int} {V : LkV} (s : Txt) (h : RfS hu c w g le n V) (hn : n ≤ 100000) :
    CallP Try.prog 38 #[.pointer (some ⟨g, 0, none⟩), tS s] (fun u w' => ∃ b : Bool, u = .bool b ∧ (b = true ↔ blocksV V s) ∧ Below w.heap.size w w') w := by
  obtain ⟨vL, now, M, h, hp, rfl, hl, _, _, _⟩ := h
  refine ⟨S38.calls _ _ _ _ ?_⟩
  unfold S38
  have hL := h.rowL
  obtain ⟨A, cL, rfl, hc, hm⟩ := hL.slice
  refine LoopP.inv1 (fun iv w' => ∃ i : Nat, i ≤ M.length ∧ iv = .int .i64 i ∧ (∀ x ∈ M.take i, ¬ inL x.L s) ∧ Below w.heap.size w w') (fun iv _ => M.length - (intOf iv).toNat) ⟨0, by omega, rfl, by simp, Below.refl _ _⟩ ?_
  rintro _ w1 ⟨i, hi, rfl, hall, hb1⟩ J hJ
  have h1 := h.below hb1
  have c2 : w1.cell? ⟨g, 2, none⟩ = some (.slice A M.length cL) := h1.blk.cell 2
  dsimp only [List.headD_cons, List.tail_cons]
  (repeat with_reducible first | refine fd f2 (by decide) ?_ | refine ld one76 c2 ?_ | refine nck ?_ | refine cdT ?_ | refine cdF ?_ | refine gdY ?_ | refine gdFT ?_ | refine gdTF ?_ | refine gdU ?_ | refine gaY ?_ | refine gaFT ?_ | refine gaTF ?_ | refine pickT ?_ | refine pickF ?_ | refine bi_lss_t (by omega) ?_ | refine bi_lss_f (by omega) ?_ | refine bi_add64 (by omega) ?_ | refine bi_sub64 (by omega) ?_ | refine bi_eql_t (by omega) ?_ | refine bi_eql_f (by omega) ?_ | refine bi_neq_t (by omega) ?_ | refine bi_neq_f (by omega) ?_ | refine bi_gtr_t (by omega) ?_ | refine bi_gtr_f (by omega) ?_ | refine bi_leq_t (by omega) ?_ | refine bi_leq_f (by omega) ?_ | refine bi_geq_t (by omega) ?_ | refine bi_geq_f (by omega) ?_ | refine bi_xt0 ?_ | refine bi_xt1 ?_ | refine bi_xt2 ?_ | refine bi_xt3 ?_ | refine bi_T ?_ | refine bi_F ?_ | refine bi_not ?_ | refine bi_and ?_ | refine bi_or ?_ | refine bi_xor ?_ | refine bi_shr (by omega) (by decide) ?_ | refine bi_shl (by omega) (by decide) ?_ | refine bi_quo64 (by omega) ?_ | refine bi_rem64 (by omega) ?_ | refine bi_mul64 (by omega) ?_ | refine bi_neg ?_ | refine bi_un_xor32 ?_ | refine bi_add ?_ | refine bi_sub ?_ | refine bi_mul ?_ | refine bi_quo (by decide) ?_ | refine bi_rem (by decide) ?_)
  refine ln und76 ?_
  refine bi_lss_c (fun hlt => ?_) (fun hlt => ?_)
  · have hi' : i < M.length := by omega
    obtain ⟨gL, cL', he, _, d1, _⟩ := h1.at i hi'
    cases he
    (repeat with_reducible first | refine fd f2 (by decide) ?_ | refine ld one76 c2 ?_ | refine ixG und76 sz85 i hi' ?_ | refine fdG o1 (by decide) ?_ | refine ld one26 d1 ?_ | refine nck ?_ | refine cdT ?_ | refine cdF ?_ | refine gdY ?_ | refine gdFT ?_ | refine gdTF ?_ | refine gdU ?_ | refine gaY ?_ | refine gaFT ?_ | refine gaTF ?_ | refine pickT ?_ | refine pickF ?_ | refine bi_lss_t (by omega) ?_ | refine bi_lss_f (by omega) ?_ | refine bi_add64 (by omega) ?_ | refine bi_sub64 (by omega) ?_ | refine bi_eql_t (by omega) ?_ | refine bi_eql_f (by omega) ?_ | refine bi_neq_t (by omega) ?_ | refine bi_neq_f (by omega) ?_ | refine bi_gtr_t (by omega) ?_ | refine bi_gtr_f (by omega) ?_ | refine bi_leq_t (by omega) ?_ | refine bi_leq_f (by omega) ?_ | refine bi_geq_t (by omega) ?_ | refine bi_geq_f (by omega) ?_ | refine bi_xt0 ?_ | refine bi_xt1 ?_ | refine bi_xt2 ?_ | refine bi_xt3 ?_ | refine bi_T ?_ | refine bi_F ?_ | refine bi_not ?_ | refine bi_and ?_ | refine bi_or ?_ | refine bi_xor ?_ | refine bi_shr (by omega) (by decide) ?_ | refine bi_shl (by omega) (by decide) ?_ | refine bi_quo64 (by omega) ?_ | refine bi_rem64 (by omega) ?_ | refine bi_mul64 (by omega) ?_ | refine bi_neg ?_ | refine bi_un_xor32 ?_ | refine bi_add ?_ | refine bi_sub ?_ | refine bi_mul ?_ | refine bi_quo (by decide) ?_ | refine bi_rem (by decide) ?_)
    have hx := h1.el M[i] (List.getElem_mem hi')
    refine (in51 _ M[i].L s w1 hx.rd).mono ?_
    rintro _ w2 ⟨rfl, h2⟩
    by_cases hin : inL M[i].L s
    · rw [decide_eq_true hin]
      (repeat with_reducible first | refine nck ?_ | refine cdT ?_ | refine cdF ?_ | refine gdY ?_ | refine gdFT ?_ | refine gdTF ?_ | refine gdU ?_ | refine gaY ?_ | refine gaFT ?_ | refine gaTF ?_ | refine pickT ?_ | refine pickF ?_ | refine bi_lss_t (by omega) ?_ | refine bi_lss_f (by omega) ?_ | refine bi_add64 (by omega) ?_ | refine bi_sub64 (by omega) ?_ | refine bi_eql_t (by omega) ?_ | refine bi_eql_f (by omega) ?_ | refine bi_neq_t (by omega) ?_ | refine bi_neq_f (by omega) ?_ | refine bi_gtr_t (by omega) ?_ | refine bi_gtr_f (by omega) ?_ | refine bi_leq_t (by omega) ?_ | refine bi_leq_f (by omega) ?_ | refine bi_geq_t (by omega) ?_ | refine bi_geq_f (by omega) ?_ | refine bi_xt0 ?_ | refine bi_xt1 ?_ | refine bi_xt2 ?_ | refine bi_xt3 ?_ | refine bi_T ?_ | refine bi_F ?_ | refine bi_not ?_ | refine bi_and ?_ | refine bi_or ?_ | refine bi_xor ?_ | refine bi_shr (by omega) (by decide) ?_ | refine bi_shl (by omega) (by decide) ?_ | refine bi_quo64 (by omega) ?_ | refine bi_rem64 (by omega) ?_ | refine bi_mul64 (by omega) ?_ | refine bi_neg ?_ | refine bi_un_xor32 ?_ | refine bi_add ?_ | refine bi_sub ?_ | refine bi_mul ?_ | refine bi_quo (by decide) ?_ | refine bi_rem (by decide) ?_)
      refine ⟨true, rfl, ⟨fun _ => ⟨M[i].id, M[i].L, le - (now - M[i].new), ?_, hin⟩, fun _ => rfl⟩, below_then hb1 h2⟩
      unfold absM
      rw [find_at hp hi']; rfl
    · rw [decide_eq_false hin]
      (repeat with_reducible first | refine nck ?_ | refine cdT ?_ | refine cdF ?_ | refine gdY ?_ | refine gdFT ?_ | refine gdTF ?_ | refine gdU ?_ | refine gaY ?_ | refine gaFT ?_ | refine gaTF ?_ | refine pickT ?_ | refine pickF ?_ | refine bi_lss_t (by omega) ?_ | refine bi_lss_f (by omega) ?_ | refine bi_add64 (by omega) ?_ | refine bi_sub64 (by omega) ?_ | refine bi_eql_t (by omega) ?_ | refine bi_eql_f (by omega) ?_ | refine bi_neq_t (by omega) ?_ | refine bi_neq_f (by omega) ?_ | refine bi_gtr_t (by omega) ?_ | refine bi_gtr_f (by omega) ?_ | refine bi_leq_t (by omega) ?_ | refine bi_leq_f (by omega) ?_ | refine bi_geq_t (by omega) ?_ | refine bi_geq_f (by omega) ?_ | refine bi_xt0 ?_ | refine bi_xt1 ?_ | refine bi_xt2 ?_ | refine bi_xt3 ?_ | refine bi_T ?_ | refine bi_F ?_ | refine bi_not ?_ | refine bi_and ?_ | refine bi_or ?_ | refine bi_xor ?_ | refine bi_shr (by omega) (by decide) ?_ | refine bi_shl (by omega) (by decide) ?_ | refine bi_quo64 (by omega) ?_ | refine bi_rem64 (by omega) ?_ | refine bi_mul64 (by omega) ?_ | refine bi_neg ?_ | refine bi_un_xor32 ?_ | refine bi_add ?_ | refine bi_sub ?_ | refine bi_mul ?_ | refine bi_quo (by decide) ?_ | refine bi_rem (by decide) ?_)
      refine hJ _ _ ⟨i + 1, by omega, by simp, fun x hx => ?_, below_then hb1 h2⟩ (by simp [intOf]; omega)
      rcases mem_take_succ hi' hx with hx | rfl
      · exact hall x hx
      · exact hin
  · (repeat with_reducible first | refine nck ?_ | refine cdT ?_ | refine cdF ?_ | refine gdY ?_ | refine gdFT ?_ | refine gdTF ?_ | refine gdU ?_ | refine gaY ?_ | refine gaFT ?_ | refine gaTF ?_ | refine pickT ?_ | refine pickF ?_ | refine bi_lss_t (by omega) ?_ | refine bi_lss_f (by omega) ?_ | refine bi_add64 (by omega) ?_ | refine bi_sub64 (by omega) ?_ | refine bi_eql_t (by omega) ?_ | refine bi_eql_f (by omega) ?_ | refine bi_neq_t (by omega) ?_ | refine bi_neq_f (by omega) ?_ | refine bi_gtr_t (by omega) ?_ | refine bi_gtr_f (by omega) ?_ | refine bi_leq_t (by omega) ?_ | refine bi_leq_f (by omega) ?_ | refine bi_geq_t (by omega) ?_ | refine bi_geq_f (by omega) ?_ | refine bi_xt0 ?_ | refine bi_xt1 ?_ | refine bi_xt2 ?_ | refine bi_xt3 ?_ | refine bi_T ?_ | refine bi_F ?_ | refine bi_not ?_ | refine bi_and ?_ | refine bi_or ?_ | refine bi_xor ?_ | refine bi_shr (by omega) (by decide) ?_ | refine bi_shl (by omega) (by decide) ?_ | refine bi_quo64 (by omega) ?_ | refine bi_rem64 (by omega) ?_ | refine bi_mul64 (by omega) ?_ | refine bi_neg ?_ | refine bi_un_xor32 ?_ | refine bi_add ?_ | refine bi_sub ?_ | refine bi_mul ?_ | refine bi_quo (by decide) ?_ | refine bi_rem (by decide) ?_)
    have : i = M.length := by omega
    subst this
    rw [List.take_length] at hall
    refine ⟨false, rfl, ⟨(fun e => by cases e), ?_⟩, hb1⟩
    rintro ⟨id, L, left, hv, hin⟩
    obtain ⟨x, hx, he⟩ := Option.map_eq_some_iff.1 hv
    cases he
    exact absurd hin (hall x (find_some hx).1)
theorem refHolds39 {hu : Nat} {c : Nat → Nat} {w : World} {g n : Nat} {le : Int} {V : LkV} (id : Int) (r : Rg) (h : RfS hu c w g le n V) (hok : LkOk 500 le V) (hn : n ≤ 100000) :
    CallP Try.prog 39 #[.pointer (some ⟨g, 0, none⟩), .int .i64 id, rgV r] (fun u w' => ∃ b : Bool, u = .bool b ∧ (b = true ↔ holdsV V id r) ∧ Below w.heap.size w w') w := by
  obtain ⟨vL, now, M, h, hp, rfl, hl, _, _, _⟩ := h
  refine ⟨S39.calls _ _ _ _ _ ?_⟩
  unfold S39
  refine bxB ?_
  intro gr w1 hgr hR1 hb1
  have h1 := h.below hb1
  refine (refAt64 id h1 (by omega)).mono ?_
  rintro r1 _ ⟨hr1, rfl⟩
  have hdr : Below w1.heap.size w1 w1.drew := (Below.refl _ _).drew
  refine draw (Below w1.heap.size w1) hdr ?_
  have h2 := h1.below hdr
  have hb2 := below_then hb1 hdr
  have kR : ∀ w', Below w1.heap.size w1 w' → Blk w' gr 23 (rgA r) := fun w' hw => hR1.below' hw
  have kG : ∀ w', Below w1.heap.size w1 w' → RfAt hu c w' g vL le now M := fun w' hw => h1.below hw
  generalize w1.drew = w2 at *
  rcases hr1 with ⟨i, hi, rfl, hid⟩ | ⟨rfl, hall⟩
  · have hv : absM le now M id = some (M[i].L, le - (now - M[i].new)) := by
      unfold absM
      rw [← hid, find_at hp hi]; rfl
    obtain ⟨_, _, _, hlen, _⟩ := hok _ _ _ hv
    obtain ⟨gL, cL, rfl, _⟩ := h1.at i hi
    have s2 : ∀ w', Below w1.heap.size w1 w' → w'.cell? ⟨g, 2, none⟩ = some (.slice (some ⟨gL, 0, none⟩) M.length cL) := fun w' hw => (kG w' hw).blk.cell 2
    have s1 : ∀ w', Below w1.heap.size w1 w' → w'.cell? ⟨gL, i * 3 + 1, none⟩ = some M[i].v := fun w' hw => by
      obtain ⟨gL', cL', he, _, d1, _⟩ := (kG w' hw).at i hi
      cases he; exact d1
    (repeat with_reducible first | refine yfd f2 (by decide) ?_ | refine yl1 one76 s2 ?_ | refine yixG und76 sz85 i hi ?_ | refine yfdG o1 (by decide) ?_ | refine yl1 one26 s1 ?_ | refine ynck ?_ | refine nck ?_ | refine cdT ?_ | refine cdF ?_ | refine gdY ?_ | refine gdFT ?_ | refine gdTF ?_ | refine gdU ?_ | refine gaY ?_ | refine gaFT ?_ | refine gaTF ?_ | refine pickT ?_ | refine pickF ?_ | refine yi_lss_t (by omega) ?_ | refine yi_lss_f (by omega) ?_ | refine yi_add64 (by omega) ?_ | refine yi_sub64 (by omega) ?_ | refine yi_eql_t (by omega) ?_ | refine yi_eql_f (by omega) ?_ | refine yi_neq_t (by omega) ?_ | refine yi_neq_f (by omega) ?_ | refine yi_gtr_t (by omega) ?_ | refine yi_gtr_f (by omega) ?_ | refine yi_leq_t (by omega) ?_ | refine yi_leq_f (by omega) ?_ | refine yi_geq_t (by omega) ?_ | refine yi_geq_f (by omega) ?_ | refine yi_xt0 ?_ | refine yi_xt1 ?_ | refine yi_xt2 ?_ | refine yi_xt3 ?_ | refine yi_T ?_ | refine yi_F ?_ | refine yi_not ?_ | refine yi_and ?_ | refine yi_or ?_ | refine yi_xor ?_ | refine yi_shr (by omega) (by decide) ?_ | refine yi_shl (by omega) (by decide) ?_ | refine yi_quo64 (by omega) ?_ | refine yi_rem64 (by omega) ?_ | refine yi_mul64 (by omega) ?_ | refine yi_neg ?_ | refine yi_un_xor32 ?_ | refine yi_add ?_ | refine yi_sub ?_ | refine yi_mul ?_ | refine yi_quo (by decide) ?_ | refine yi_rem (by decide) ?_)
    refine yldA agg23 kR (by rw [sz23]; rfl) ?_
    (repeat with_reducible first | refine ynck ?_ | refine nck ?_ | refine cdT ?_ | refine cdF ?_ | refine gdY ?_ | refine gdFT ?_ | refine gdTF ?_ | refine gdU ?_ | refine gaY ?_ | refine gaFT ?_ | refine gaTF ?_ | refine pickT ?_ | refine pickF ?_ | refine yi_lss_t (by omega) ?_ | refine yi_lss_f (by omega) ?_ | refine yi_add64 (by omega) ?_ | refine yi_sub64 (by omega) ?_ | refine yi_eql_t (by omega) ?_ | refine yi_eql_f (by omega) ?_ | refine yi_neq_t (by omega) ?_ | refine yi_neq_f (by omega) ?_ | refine yi_gtr_t (by omega) ?_ | refine yi_gtr_f (by omega) ?_ | refine yi_leq_t (by omega) ?_ | refine yi_leq_f (by omega) ?_ | refine yi_geq_t (by omega) ?_ | refine yi_geq_f (by omega) ?_ | refine yi_xt0 ?_ | refine yi_xt1 ?_ | refine yi_xt2 ?_ | refine yi_xt3 ?_ | refine yi_T ?_ | refine yi_F ?_ | refine yi_not ?_ | refine yi_and ?_ | refine yi_or ?_ | refine yi_xor ?_ | refine yi_shr (by omega) (by decide) ?_ | refine yi_shl (by omega) (by decide) ?_ | refine yi_quo64 (by omega) ?_ | refine yi_rem64 (by omega) ?_ | refine yi_mul64 (by omega) ?_ | refine yi_neg ?_ | refine yi_un_xor32 ?_ | refine yi_add ?_ | refine yi_sub ?_ | refine yi_mul ?_ | refine yi_quo (by decide) ?_ | refine yi_rem (by decide) ?_)
    refine act ?_
    refine (covers24 M[i].v M[i].L r (by omega) w2 (h2.el _ (List.getElem_mem hi)).rd).mono ?_
    rintro _ w3 ⟨b, rfl, hb, h3⟩
    refine ⟨_, below_then hdr h3, fun _ h => h, ?_⟩
    refine pickT ?_
    refine ⟨b, rfl, hb.trans ⟨fun e => ⟨_, _, hv, e⟩, ?_⟩, below_then hb2 h3⟩
    rintro ⟨L, left, e, q⟩
    rw [hv] at e
    cases e
    exact q
  · (repeat with_reducible first | refine ynck ?_ | refine nck ?_ | refine cdT ?_ | refine cdF ?_ | refine gdY ?_ | refine gdFT ?_ | refine gdTF ?_ | refine gdU ?_ | refine gaY ?_ | refine gaFT ?_ | refine gaTF ?_ | refine pickT ?_ | refine pickF ?_ | refine yi_lss_t (by omega) ?_ | refine yi_lss_f (by omega) ?_ | refine yi_add64 (by omega) ?_ | refine yi_sub64 (by omega) ?_ | refine yi_eql_t (by omega) ?_ | refine yi_eql_f (by omega) ?_ | refine yi_neq_t (by omega) ?_ | refine yi_neq_f (by omega) ?_ | refine yi_gtr_t (by omega) ?_ | refine yi_gtr_f (by omega) ?_ | refine yi_leq_t (by omega) ?_ | refine yi_leq_f (by omega) ?_ | refine yi_geq_t (by omega) ?_ | refine yi_geq_f (by omega) ?_ | refine yi_xt0 ?_ | refine yi_xt1 ?_ | refine yi_xt2 ?_ | refine yi_xt3 ?_ | refine yi_T ?_ | refine yi_F ?_ | refine yi_not ?_ | refine yi_and ?_ | refine yi_or ?_ | refine yi_xor ?_ | refine yi_shr (by omega) (by decide) ?_ | refine yi_shl (by omega) (by decide) ?_ | refine yi_quo64 (by omega) ?_ | refine yi_rem64 (by omega) ?_ | refine yi_mul64 (by omega) ?_ | refine yi_neg ?_ | refine yi_un_xor32 ?_ | refine yi_add ?_ | refine yi_sub ?_ | refine yi_mul ?_ | refine yi_quo (by decide) ?_ | refine yi_rem (by decide) ?_)
    refine ⟨false, rfl, ⟨(fun e => by cases e), ?_⟩, hb2⟩
    rintro ⟨L, left, e, _⟩
    unfold absM at e
    rw [find_none hall] at e
    cases e
theorem refRanges42 {hu : Nat} {c : Nat → Nat} {w : World} {g n : Nat} {le : Int} {V : LkV} (id : Int) (h : RfS hu c w g le n V) (hn : n ≤ 100000) :
    CallP Try.prog 42 #[.pointer (some ⟨g, 0, none⟩), .int .i64 id] (fun u w' => RgR w' [u] (((V id).map (·.1)).getD []) ∧ w = w') w := by
  obtain ⟨vL, now, M, h, hp, rfl, hl, _, _, _⟩ := h
  refine ⟨S42.calls _ _ _ _ ?_⟩
  unfold S42
  refine (refAt64 id h (by omega)).mono ?_
  rintro r1 _ ⟨hr1, rfl⟩
  rcases hr1 with ⟨i, hi, rfl, hid⟩ | ⟨rfl, hall⟩
  · have hv : absM le now M id = some (M[i].L, le - (now - M[i].new)) := by
      unfold absM
      rw [← hid, find_at hp hi]; rfl
    obtain ⟨gL, cL, rfl, _, d1, _⟩ := h.at i hi
    have c2 : w.cell? ⟨g, 2, none⟩ = some (.slice (some ⟨gL, 0, none⟩) M.length cL) := h.blk.cell 2
    (repeat with_reducible first | refine fd f2 (by decide) ?_ | refine ld one76 c2 ?_ | refine ixG und76 sz85 i hi ?_ | refine fdG o1 (by decide) ?_ | refine ld one26 d1 ?_ | refine nck ?_ | refine cdT ?_ | refine cdF ?_ | refine gdY ?_ | refine gdFT ?_ | refine gdTF ?_ | refine gdU ?_ | refine gaY ?_ | refine gaFT ?_ | refine gaTF ?_ | refine pickT ?_ | refine pickF ?_ | refine bi_lss_t (by omega) ?_ | refine bi_lss_f (by omega) ?_ | refine bi_add64 (by omega) ?_ | refine bi_sub64 (by omega) ?_ | refine bi_eql_t (by omega) ?_ | refine bi_eql_f (by omega) ?_ | refine bi_neq_t (by omega) ?_ | refine bi_neq_f (by omega) ?_ | refine bi_gtr_t (by omega) ?_ | refine bi_gtr_f (by omega) ?_ | refine bi_leq_t (by omega) ?_ | refine bi_leq_f (by omega) ?_ | refine bi_geq_t (by omega) ?_ | refine bi_geq_f (by omega) ?_ | refine bi_xt0 ?_ | refine bi_xt1 ?_ | refine bi_xt2 ?_ | refine bi_xt3 ?_ | refine bi_T ?_ | refine bi_F ?_ | refine bi_not ?_ | refine bi_and ?_ | refine bi_or ?_ | refine bi_xor ?_ | refine bi_shr (by omega) (by decide) ?_ | refine bi_shl (by omega) (by decide) ?_ | refine bi_quo64 (by omega) ?_ | refine bi_rem64 (by omega) ?_ | refine bi_mul64 (by omega) ?_ | refine bi_neg ?_ | refine bi_un_xor32 ?_ | refine bi_add ?_ | refine bi_sub ?_ | refine bi_mul ?_ | refine bi_quo (by decide) ?_ | refine bi_rem (by decide) ?_)
    rw [hv]
    exact ⟨(h.el _ (List.getElem_mem hi)).rd, rfl⟩
  · (repeat with_reducible first | refine nck ?_ | refine cdT ?_ | refine cdF ?_ | refine gdY ?_ | refine gdFT ?_ | refine gdTF ?_ | refine gdU ?_ | refine gaY ?_ | refine gaFT ?_ | refine gaTF ?_ | refine pickT ?_ | refine pickF ?_ | refine bi_lss_t (by omega) ?_ | refine bi_lss_f (by omega) ?_ | refine bi_add64 (by omega) ?_ | refine bi_sub64 (by omega) ?_ | refine bi_eql_t (by omega) ?_ | refine bi_eql_f (by omega) ?_ | refine bi_neq_t (by omega) ?_ | refine bi_neq_f (by omega) ?_ | refine bi_gtr_t (by omega) ?_ | refine bi_gtr_f (by omega) ?_ | refine bi_leq_t (by omega) ?_ | refine bi_leq_f (by omega) ?_ | refine bi_geq_t (by omega) ?_ | refine bi_geq_f (by omega) ?_ | refine bi_xt0 ?_ | refine bi_xt1 ?_ | refine bi_xt2 ?_ | refine bi_xt3 ?_ | refine bi_T ?_ | refine bi_F ?_ | refine bi_not ?_ | refine bi_and ?_ | refine bi_or ?_ | refine bi_xor ?_ | refine bi_shr (by omega) (by decide) ?_ | refine bi_shl (by omega) (by decide) ?_ | refine bi_quo64 (by omega) ?_ | refine bi_rem64 (by omega) ?_ | refine bi_mul64 (by omega) ?_ | refine bi_neg ?_ | refine bi_un_xor32 ?_ | refine bi_add ?_ | refine bi_sub ?_ | refine bi_mul ?_ | refine bi_quo (by decide) ?_ | refine bi_rem (by decide) ?_)
    have hv : absM le now M id = none := by unfold absM; rw [find_none hall]; rfl
    rw [hv]
    exact ⟨(OwnA.nil 0 w).rd, rfl⟩
end Go.Proofs.Ytcihbjempijhpaa.E
/- The reference's table of locks: Ids, Renew, Free. -/
namespace Go.Proofs.Ytcihbjempijhpaa.E
open Go Go.RowKit
set_option linter.unusedSimpArgs false
set_option linter.unusedVariables false

theorem rRow.cutTo {α : Type} {s : Nat} {r : Rdr α} {w : World} {A : Option Addr} {c : Nat} {l : List α} (h : rRow s r w [.slice A l.length c] l) (j : Nat) (hj : j ≤ l.length) : rRow s r w [sliced A 0 j c s] (l.take j) := by
  obtain ⟨A', c', he, hc, hm, h3⟩ := h
  simp only [List.cons.injEq, Value.slice.injEq, and_true, true_and] at he
  obtain ⟨rfl, rfl⟩ := he
  have e : sliced A 0 j c s = .slice (if c = 0 then A else A.map (·.add 0)) (l.take j).length c := by
    unfold sliced
    rw [List.length_take, Nat.min_eq_left hj, Nat.zero_mul, Nat.sub_zero, Nat.sub_zero]
  rw [e]
  refine ⟨_, _, rfl, by rw [List.length_take]; omega, hm, fun i x hx => ?_⟩
  have hi : i < j := by
    have := (List.getElem?_eq_some_iff.1 hx).1
    rw [List.length_take] at this; omega
  rw [List.getElem?_take, if_pos hi] at hx
  obtain ⟨a, us, rfl, hus, hcell, hr⟩ := h3 i x hx
  refine ⟨a, us, ?_, hus, hcell, hr⟩
  rw [if_neg (by omega), Option.map_some, add_0]
theorem RfAt.rd {hu : Nat} {c : Nat → Nat} {w : World} {g : Nat} {vL : Value} {le now : Int} {M : List Rk} (h : RfAt hu c w g vL le now M) : rRow 3 (fun _ us x => us = rkF x) w [vL] M :=
  OwnR.rd (r := fun _ us x => us = rkF x) h.rowL rkF_len (fun _ _ => rfl)
theorem idsOf_abs {le now : Int} {M : List Rk} (hp : M.Pairwise fun x y => x.id < y.id) : IdsOf (absM le now M) (M.map (·.id)) := by
  refine ⟨List.pairwise_map.2 hp, fun id => ?_⟩
  unfold absM
  constructor
  · intro hm
    obtain ⟨x, hx, rfl⟩ := List.mem_map.1 hm
    obtain ⟨i, hi, rfl⟩ := List.getElem_of_mem hx
    rw [find_at hp hi]
    simp
  · intro hn
    cases hf : findM M id with
    | none => rw [hf] at hn; exact absurd rfl hn
    | some x =>
      obtain ⟨h1, h2⟩ := find_some hf
      exact List.mem_map.2 ⟨x, h1, h2⟩
theorem refIds41 {hu : Nat} {c : Nat → Nat} {w : World} {g n : Nat} {le : Int} {V : LkV} (h : RfS hu c w g le n V) (hn : n ≤ 100000) :
    CallP Try.prog 41 #[.pointer (some ⟨g, 0, none⟩)] (fun u w' => ∃ ids, IdsOf V ids ∧ ids.length ≤ n ∧ Own 3 w' u (ids.map (Value.int .i64)) ∧ Fresh w.heap.size u ∧ Below w.heap.size w w') w := by
  obtain ⟨vL, now, M, h, hp, rfl, hl, _, _, _⟩ := h
  refine ⟨S41.calls _ _ _ ?_⟩
  unfold S41
  have hL := h.rowL
  obtain ⟨A, cL, rfl, hc, hm⟩ := hL.slice
  refine LoopP.inv2 (fun ov iv w' => ∃ i : Nat, i ≤ M.length ∧ iv = .int .i64 i ∧ w'.ownsRow 0 3 1 ov i ((M.take i).map fun x => Value.int .i64 x.id) ∧ Fresh w.heap.size ov ∧ Below w.heap.size w w') (fun _ iv _ => M.length - (intOf iv).toNat) ⟨0, by omega, rfl, ⟨rfl, .inl ⟨rfl, rfl⟩⟩, Fresh.nil _, Below.refl _ _⟩ ?_
  rintro ov _ w1 ⟨i, hi, rfl, hown, hfr, hb1⟩ J hJ
  have h1 := h.below hb1
  have hs1 := hb1.size
  have c2 : w1.cell? ⟨g, 2, none⟩ = some (.slice A M.length cL) := h1.blk.cell 2
  dsimp only [List.headD_cons, List.tail_cons]
  (repeat with_reducible first | refine fd f2 (by decide) ?_ | refine ld one76 c2 ?_ | refine nck ?_ | refine cdT ?_ | refine cdF ?_ | refine gdY ?_ | refine gdFT ?_ | refine gdTF ?_ | refine gdU ?_ | refine gaY ?_ | refine gaFT ?_ | refine gaTF ?_ | refine pickT ?_ | refine pickF ?_ | refine bi_lss_t (by omega) ?_ | refine bi_lss_f (by omega) ?_ | refine bi_add64 (by omega) ?_ | refine bi_sub64 (by omega) ?_ | refine bi_eql_t (by omega) ?_ | refine bi_eql_f (by omega) ?_ | refine bi_neq_t (by omega) ?_ | refine bi_neq_f (by omega) ?_ | refine bi_gtr_t (by omega) ?_ | refine bi_gtr_f (by omega) ?_ | refine bi_leq_t (by omega) ?_ | refine bi_leq_f (by omega) ?_ | refine bi_geq_t (by omega) ?_ | refine bi_geq_f (by omega) ?_ | refine bi_xt0 ?_ | refine bi_xt1 ?_ | refine bi_xt2 ?_ | refine bi_xt3 ?_ | refine bi_T ?_ | refine bi_F ?_ | refine bi_not ?_ | refine bi_and ?_ | refine bi_or ?_ | refine bi_xor ?_ | refine bi_shr (by omega) (by decide) ?_ | refine bi_shl (by omega) (by decide) ?_ | refine bi_quo64 (by omega) ?_ | refine bi_rem64 (by omega) ?_ | refine bi_mul64 (by omega) ?_ | refine bi_neg ?_ | refine bi_un_xor32 ?_ | refine bi_add ?_ | refine bi_sub ?_ | refine bi_mul ?_ | refine bi_quo (by decide) ?_ | refine bi_rem (by decide) ?_)
  refine ln und76 ?_
  refine bi_lss_c (fun hlt => ?_) (fun hlt => ?_)
  · have hi' : i < M.length := by omega
    obtain ⟨gL, cL', he, d0, _⟩ := h1.at i hi'
    cases he
    (repeat with_reducible first | refine fd f2 (by decide) ?_ | refine ld one76 c2 ?_ | refine ixG und76 sz85 i hi' ?_ | refine fdG o0 (by decide) ?_ | refine ld one3' d0 ?_ | refine nck ?_ | refine cdT ?_ | refine cdF ?_ | refine gdY ?_ | refine gdFT ?_ | refine gdTF ?_ | refine gdU ?_ | refine gaY ?_ | refine gaFT ?_ | refine gaTF ?_ | refine pickT ?_ | refine pickF ?_ | refine bi_lss_t (by omega) ?_ | refine bi_lss_f (by omega) ?_ | refine bi_add64 (by omega) ?_ | refine bi_sub64 (by omega) ?_ | refine bi_eql_t (by omega) ?_ | refine bi_eql_f (by omega) ?_ | refine bi_neq_t (by omega) ?_ | refine bi_neq_f (by omega) ?_ | refine bi_gtr_t (by omega) ?_ | refine bi_gtr_f (by omega) ?_ | refine bi_leq_t (by omega) ?_ | refine bi_leq_f (by omega) ?_ | refine bi_geq_t (by omega) ?_ | refine bi_geq_f (by omega) ?_ | refine bi_xt0 ?_ | refine bi_xt1 ?_ | refine bi_xt2 ?_ | refine bi_xt3 ?_ | refine bi_T ?_ | refine bi_F ?_ | refine bi_not ?_ | refine bi_and ?_ | refine bi_or ?_ | refine bi_xor ?_ | refine bi_shr (by omega) (by decide) ?_ | refine bi_shl (by omega) (by decide) ?_ | refine bi_quo64 (by omega) ?_ | refine bi_rem64 (by omega) ?_ | refine bi_mul64 (by omega) ?_ | refine bi_neg ?_ | refine bi_un_xor32 ?_ | refine bi_add ?_ | refine bi_sub ?_ | refine bi_mul ?_ | refine bi_quo (by decide) ?_ | refine bi_rem (by decide) ?_)
    refine apOneV (us := [.int .i64 M[i].id]) und37' inf3 (by rfl) (by decide) hown (by rfl) (by intro u hu; simp only [List.mem_cons, List.not_mem_nil, or_false] at hu; subst hu; rfl) (by omega) (by omega) (by kernel_rfl) ?_
    intro v2 w2 ho2 hbl2 hT2
    (repeat with_reducible first | refine nck ?_ | refine cdT ?_ | refine cdF ?_ | refine gdY ?_ | refine gdFT ?_ | refine gdTF ?_ | refine gdU ?_ | refine gaY ?_ | refine gaFT ?_ | refine gaTF ?_ | refine pickT ?_ | refine pickF ?_ | refine bi_lss_t (by omega) ?_ | refine bi_lss_f (by omega) ?_ | refine bi_add64 (by omega) ?_ | refine bi_sub64 (by omega) ?_ | refine bi_eql_t (by omega) ?_ | refine bi_eql_f (by omega) ?_ | refine bi_neq_t (by omega) ?_ | refine bi_neq_f (by omega) ?_ | refine bi_gtr_t (by omega) ?_ | refine bi_gtr_f (by omega) ?_ | refine bi_leq_t (by omega) ?_ | refine bi_leq_f (by omega) ?_ | refine bi_geq_t (by omega) ?_ | refine bi_geq_f (by omega) ?_ | refine bi_xt0 ?_ | refine bi_xt1 ?_ | refine bi_xt2 ?_ | refine bi_xt3 ?_ | refine bi_T ?_ | refine bi_F ?_ | refine bi_not ?_ | refine bi_and ?_ | refine bi_or ?_ | refine bi_xor ?_ | refine bi_shr (by omega) (by decide) ?_ | refine bi_shl (by omega) (by decide) ?_ | refine bi_quo64 (by omega) ?_ | refine bi_rem64 (by omega) ?_ | refine bi_mul64 (by omega) ?_ | refine bi_neg ?_ | refine bi_un_xor32 ?_ | refine bi_add ?_ | refine bi_sub ?_ | refine bi_mul ?_ | refine bi_quo (by decide) ?_ | refine bi_rem (by decide) ?_)
    refine hJ _ _ _ ⟨i + 1, by omega, by simp, ?_, hfr.one hs1 hbl2, hb1.trans (hT2.fresh hfr hs1)⟩ (by simp [intOf]; omega)
    rw [map_succ _ _ _ hi']
    exact ho2
  · (repeat with_reducible first | refine nck ?_ | refine cdT ?_ | refine cdF ?_ | refine gdY ?_ | refine gdFT ?_ | refine gdTF ?_ | refine gdU ?_ | refine gaY ?_ | refine gaFT ?_ | refine gaTF ?_ | refine pickT ?_ | refine pickF ?_ | refine bi_lss_t (by omega) ?_ | refine bi_lss_f (by omega) ?_ | refine bi_add64 (by omega) ?_ | refine bi_sub64 (by omega) ?_ | refine bi_eql_t (by omega) ?_ | refine bi_eql_f (by omega) ?_ | refine bi_neq_t (by omega) ?_ | refine bi_neq_f (by omega) ?_ | refine bi_gtr_t (by omega) ?_ | refine bi_gtr_f (by omega) ?_ | refine bi_leq_t (by omega) ?_ | refine bi_leq_f (by omega) ?_ | refine bi_geq_t (by omega) ?_ | refine bi_geq_f (by omega) ?_ | refine bi_xt0 ?_ | refine bi_xt1 ?_ | refine bi_xt2 ?_ | refine bi_xt3 ?_ | refine bi_T ?_ | refine bi_F ?_ | refine bi_not ?_ | refine bi_and ?_ | refine bi_or ?_ | refine bi_xor ?_ | refine bi_shr (by omega) (by decide) ?_ | refine bi_shl (by omega) (by decide) ?_ | refine bi_quo64 (by omega) ?_ | refine bi_rem64 (by omega) ?_ | refine bi_mul64 (by omega) ?_ | refine bi_neg ?_ | refine bi_un_xor32 ?_ | refine bi_add ?_ | refine bi_sub ?_ | refine bi_mul ?_ | refine bi_quo (by decide) ?_ | refine bi_rem (by decide) ?_)
    have : i = M.length := by omega
    subst this
    rw [List.take_length] at hown
    refine ⟨M.map (·.id), idsOf_abs hp, by rw [List.length_map]; exact hl, ?_, hfr, hb1⟩
    rw [List.map_map]
    refine ⟨by simp, ?_⟩
    rw [List.length_map]
    exact hown.2
theorem find_set_ne {j : Int} {y : Rk} : ∀ {M : List Rk} {i : Nat} (hi : i < M.length), y.id ≠ j → M[i].id ≠ j → findM (M.set i y) j = findM M j
  | x :: r, 0, _, h1, h2 => by
    have h2 : x.id ≠ j := h2
    simp only [findM, List.set_cons_zero, List.find?_cons, decide_eq_false h1, decide_eq_false h2]
  | x :: r, i + 1, hi, h1, h2 => by
    have ih := find_set_ne (M := r) (i := i) (by simpa using hi) h1 h2
    simp only [findM] at ih
    simp only [findM, List.set_cons_succ, List.find?_cons, ih]
theorem pair_set {y : Rk} {M : List Rk} {i : Nat} (hp : M.Pairwise fun x y => x.id < y.id) (hi : i < M.length) (hy : y.id = M[i].id) : (M.set i y).Pairwise fun x y => x.id < y.id := by
  have e : (M.set i y).map (·.id) = M.map (·.id) := by
    rw [List.map_set, hy]
    apply List.ext_getElem?
    intro k
    rw [List.getElem?_set]
    by_cases hk : i = k
    · subst hk
      simp [hi]
    · rw [if_neg hk]
  rw [← List.pairwise_map (f := fun x : Rk => x.id) (R := fun a b => a < b), e, List.pairwise_map]
  exact hp
theorem abs_set {le now : Int} {y : Rk} {M : List Rk} {i : Nat} (hp : M.Pairwise fun x y => x.id < y.id) (hi : i < M.length) (hy : y.id = M[i].id) : absM le now (M.set i y) = fun j => if j = y.id then some (y.L, le - (now - y.new)) else absM le now M j := by
  funext j
  unfold absM
  by_cases hj : j = y.id
  · rw [if_pos hj]
    have hp' := pair_set hp hi hy
    have := find_at hp' (i := i) (by simpa using hi)
    rw [List.getElem_set_self] at this
    rw [hj, this]; rfl
  · rw [if_neg hj, find_set_ne hi (fun e => hj e.symm) (fun e => hj (by rw [hy, e]))]
theorem flat_new (k : Int) : ∀ (M : List Rk) (i : Nat) (hi : i < M.length), (M.flatMap rkF).set (i * 3 + 2) (.int .i64 k) = (M.set i ⟨M[i].id, M[i].v, M[i].L, k⟩).flatMap rkF
  | x :: r, 0, _ => rfl
  | x :: r, i + 1, hi => by
    have ih := flat_new k r i (by simpa using hi)
    rw [List.flatMap_cons, List.set_cons_succ, List.flatMap_cons, List.getElem_cons_succ, ← ih, List.set_append, if_neg (by rw [rkF_len]; omega), rkF_len, show (i + 1) * 3 + 2 - 3 = i * 3 + 2 by omega]
theorem refRenew57 {hu : Nat} {c : Nat → Nat} {w : World} {g n : Nat} {le : Int} {V : LkV} (id : Int) (h : RfS hu c w g le n V) (hn : n ≤ 100000) :
    CallP Try.prog 57 #[.pointer (some ⟨g, 0, none⟩), .int .i64 id] (fun u w' => u = .bool (V id).isSome ∧ LeftR hu c w g le n (renewV le V id) w') w := by
  obtain ⟨vL, now, M, h, hp, rfl, hl, hn0, hn1, hnew⟩ := h
  refine ⟨S57.calls _ _ _ _ ?_⟩
  unfold S57
  refine (refAt64 id h (by omega)).mono ?_
  rintro r1 _ ⟨hr1, rfl⟩
  rcases hr1 with ⟨i, hi, rfl, hid⟩ | ⟨rfl, hall⟩
  · have hv : absM le now M id = some (M[i].L, le - (now - M[i].new)) := by
      unfold absM
      rw [← hid, find_at hp hi]; rfl
    obtain ⟨gL, cL, rfl, _⟩ := h.at i hi
    have hdr : Below w.heap.size w w.drew := (Below.refl _ _).drew
    (repeat with_reducible first | refine nck ?_ | refine cdT ?_ | refine cdF ?_ | refine gdY ?_ | refine gdFT ?_ | refine gdTF ?_ | refine gdU ?_ | refine gaY ?_ | refine gaFT ?_ | refine gaTF ?_ | refine pickT ?_ | refine pickF ?_ | refine bi_lss_t (by omega) ?_ | refine bi_lss_f (by omega) ?_ | refine bi_add64 (by omega) ?_ | refine bi_sub64 (by omega) ?_ | refine bi_eql_t (by omega) ?_ | refine bi_eql_f (by omega) ?_ | refine bi_neq_t (by omega) ?_ | refine bi_neq_f (by omega) ?_ | refine bi_gtr_t (by omega) ?_ | refine bi_gtr_f (by omega) ?_ | refine bi_leq_t (by omega) ?_ | refine bi_leq_f (by omega) ?_ | refine bi_geq_t (by omega) ?_ | refine bi_geq_f (by omega) ?_ | refine bi_xt0 ?_ | refine bi_xt1 ?_ | refine bi_xt2 ?_ | refine bi_xt3 ?_ | refine bi_T ?_ | refine bi_F ?_ | refine bi_not ?_ | refine bi_and ?_ | refine bi_or ?_ | refine bi_xor ?_ | refine bi_shr (by omega) (by decide) ?_ | refine bi_shl (by omega) (by decide) ?_ | refine bi_quo64 (by omega) ?_ | refine bi_rem64 (by omega) ?_ | refine bi_mul64 (by omega) ?_ | refine bi_neg ?_ | refine bi_un_xor32 ?_ | refine bi_add ?_ | refine bi_sub ?_ | refine bi_mul ?_ | refine bi_quo (by decide) ?_ | refine bi_rem (by decide) ?_)
    refine draw (Below w.heap.size w) hdr ?_
    have h2 := h.below hdr
    have s2 : ∀ w', Below w.heap.size w w' → w'.cell? ⟨g, 2, none⟩ = some (.slice (some ⟨gL, 0, none⟩) M.length cL) := fun w' hw => (h.below hw).blk.cell 2
    have s1 : ∀ w', Below w.heap.size w w' → w'.cell? ⟨g, 1, none⟩ = some (.int .i64 now) := fun w' hw => (h.below hw).blk.cell 1
    generalize w.drew = w2 at *
    (repeat with_reducible first | refine yfd f2 (by decide) ?_ | refine yl1 one76 s2 ?_ | refine yfd f1 (by decide) ?_ | refine yl1 one3' s1 ?_ | refine yixG und76 sz85 i hi ?_ | refine yfdG o2 (by decide) ?_ | refine ynck ?_ | refine nck ?_ | refine cdT ?_ | refine cdF ?_ | refine gdY ?_ | refine gdFT ?_ | refine gdTF ?_ | refine gdU ?_ | refine gaY ?_ | refine gaFT ?_ | refine gaTF ?_ | refine pickT ?_ | refine pickF ?_ | refine yi_lss_t (by omega) ?_ | refine yi_lss_f (by omega) ?_ | refine yi_add64 (by omega) ?_ | refine yi_sub64 (by omega) ?_ | refine yi_eql_t (by omega) ?_ | refine yi_eql_f (by omega) ?_ | refine yi_neq_t (by omega) ?_ | refine yi_neq_f (by omega) ?_ | refine yi_gtr_t (by omega) ?_ | refine yi_gtr_f (by omega) ?_ | refine yi_leq_t (by omega) ?_ | refine yi_leq_f (by omega) ?_ | refine yi_geq_t (by omega) ?_ | refine yi_geq_f (by omega) ?_ | refine yi_xt0 ?_ | refine yi_xt1 ?_ | refine yi_xt2 ?_ | refine yi_xt3 ?_ | refine yi_T ?_ | refine yi_F ?_ | refine yi_not ?_ | refine yi_and ?_ | refine yi_or ?_ | refine yi_xor ?_ | refine yi_shr (by omega) (by decide) ?_ | refine yi_shl (by omega) (by decide) ?_ | refine yi_quo64 (by omega) ?_ | refine yi_rem64 (by omega) ?_ | refine yi_mul64 (by omega) ?_ | refine yi_neg ?_ | refine yi_un_xor32 ?_ | refine yi_add ?_ | refine yi_sub ?_ | refine yi_mul ?_ | refine yi_quo (by decide) ?_ | refine yi_rem (by decide) ?_)
    obtain ⟨gL', u', he, hu', hc', hf'⟩ := h2.rowL.at (i * 3 + 2) (by omega)
    cases he
    refine st sz3' rfl (by rw [hc']; rfl) hf' ?_
    have hset := h2.rowL.set (i * 3 + 2) (.int .i64 now)
    rw [flat_new now M i hi] at hset
    have hT := Turns.setCell (F := fun k => k = gL) (p := ⟨gL, i * 3 + 2, none⟩) (Turns.refl _ w2) (.inl rfl) (.int .i64 now)
    have hcg : c gL = hu := h.hueL gL rfl
    have hgne : g ≠ gL := by
      intro e
      rcases h2.rowL.2 with ⟨h', _⟩ | ⟨g', _, _, h', hbl, _⟩
      · cases h'
      · cases h'
        exact blk_ne h2.blk hbl (by decide) e
    refine ⟨by rw [hv]; rfl, c, fun _ _ => rfl, ⟨_, now, M.set i ⟨M[i].id, M[i].v, M[i].L, now⟩, ⟨h.hh, h.hue, h2.blk.turns hT hgne, by rw [List.length_set]; exact hset, h.hueL, fun x hx => ?_⟩, pair_set hp hi rfl, ?_, by rw [List.length_set]; exact hl, hn0, hn1, fun x hx => ?_⟩, (Turns.of_below hdr).trans (hT.mono fun j _ e => .inl (by rw [e]; exact hcg))⟩
    · have hturn : ∀ z ∈ M, RkAt c (w2.setCell ⟨gL, i * 3 + 2, none⟩ (.int .i64 now)) z := fun z hz => (h2.el z hz).turns hT fun k hk e => by
        rw [hk, hcg] at e
        have := h.hh.2
        omega
      rcases List.mem_or_eq_of_mem_set hx with hx | rfl
      · exact hturn x hx
      · have := hturn M[i] (List.getElem_mem hi)
        exact ⟨this.own, this.hue⟩
    · rw [abs_set (y := ⟨M[i].id, M[i].v, M[i].L, now⟩) hp hi rfl]
      funext j
      unfold renewV
      show (if j = M[i].id then some (M[i].L, le - (now - now)) else absM le now M j) = _
      rw [hid, hv, Int.sub_self, Int.sub_zero]; rfl
    · rcases List.mem_or_eq_of_mem_set hx with hx | rfl
      · exact hnew x hx
      · exact ⟨hn0, Int.le_refl _⟩
  · (repeat with_reducible first | refine nck ?_ | refine cdT ?_ | refine cdF ?_ | refine gdY ?_ | refine gdFT ?_ | refine gdTF ?_ | refine gdU ?_ | refine gaY ?_ | refine gaFT ?_ | refine gaTF ?_ | refine pickT ?_ | refine pickF ?_ | refine bi_lss_t (by omega) ?_ | refine bi_lss_f (by omega) ?_ | refine bi_add64 (by omega) ?_ | refine bi_sub64 (by omega) ?_ | refine bi_eql_t (by omega) ?_ | refine bi_eql_f (by omega) ?_ | refine bi_neq_t (by omega) ?_ | refine bi_neq_f (by omega) ?_ | refine bi_gtr_t (by omega) ?_ | refine bi_gtr_f (by omega) ?_ | refine bi_leq_t (by omega) ?_ | refine bi_leq_f (by omega) ?_ | refine bi_geq_t (by omega) ?_ | refine bi_geq_f (by omega) ?_ | refine bi_xt0 ?_ | refine bi_xt1 ?_ | refine bi_xt2 ?_ | refine bi_xt3 ?_ | refine bi_T ?_ | refine bi_F ?_ | refine bi_not ?_ | refine bi_and ?_ | refine bi_or ?_ | refine bi_xor ?_ | refine bi_shr (by omega) (by decide) ?_ | refine bi_shl (by omega) (by decide) ?_ | refine bi_quo64 (by omega) ?_ | refine bi_rem64 (by omega) ?_ | refine bi_mul64 (by omega) ?_ | refine bi_neg ?_ | refine bi_un_xor32 ?_ | refine bi_add ?_ | refine bi_sub ?_ | refine bi_mul ?_ | refine bi_quo (by decide) ?_ | refine bi_rem (by decide) ?_)
    have hv : absM le now M id = none := by unfold absM; rw [find_none hall]; rfl
    refine ⟨by rw [hv]; rfl, c, fun _ _ => rfl, ⟨vL, now, M, h, hp, ?_, hl, hn0, hn1, hnew⟩, Turns.refl _ _⟩
    funext j
    unfold renewV
    split
    · rename_i e; rw [e, hv]; rfl
    · rfl
end Go.Proofs.Ytcihbjempijhpaa.E
/- The reference's table of locks: Free, Tick. -/
namespace Go.Proofs.Ytcihbjempijhpaa.E
open Go Go.RowKit
set_option linter.unusedSimpArgs false
set_option linter.unusedVariables false

/-- A lock without memory. -/
def k3 (x : Rk) : Int × (List Rg × Int) := (x.id, (x.L, x.new))
theorem find_getK (id : Int) : ∀ M : List Rk, (findM M id).map (fun x => (x.L, x.new)) = getK id (M.map k3)
  | [] => rfl
  | x :: r => by
    have ih := find_getK id r
    simp only [findM] at ih
    simp only [findM, List.find?_cons, List.map_cons, k3, getK]
    by_cases h : x.id = id
    · rw [decide_eq_true h, if_pos h.symm]; rfl
    · rw [decide_eq_false h, if_neg (fun e => h e.symm)]; exact ih
theorem abs_getK (le now id : Int) (M : List Rk) : absM le now M id = (getK id (M.map k3)).map fun p => (p.1, le - (now - p.2)) := by
  unfold absM
  rw [← find_getK, Option.map_map]; rfl
theorem k3_nodup {M : List Rk} (hp : M.Pairwise fun x y => x.id < y.id) : ((M.map k3).map (·.1)).Nodup := by
  rw [List.map_map]
  refine List.pairwise_map.2 (hp.imp fun h e => ?_)
  have e : _ = _ := e
  simp only [Function.comp, k3] at e
  omega
/-- A new row stored. -/
theorem RfAt.rowSet {hu : Nat} {c' : Nat → Nat} {w : World} {g : Nat} {vL v' : Value} {le now' : Int} {M' : List Rk} (hh : 0 < hu ∧ hu < 999) (hg : c' g = hu) (hb : Blk w g 78 #[.int .i64 le, .int .i64 now', vL]) (ho : w.ownsRow 0 85 3 v' M'.length (M'.flatMap rkF)) (hv : ∀ k, v'.ownBlock = some k → c' k = hu ∧ k ≠ g) (hel : ∀ x ∈ M', RkAt c' w x) :
    RfAt hu c' (w.setCell ⟨g, 2, none⟩ v') g v' le now' M' := by
  have hT := Turns.setCell (F := fun k => k = g) (p := ⟨g, 2, none⟩) (Turns.refl _ w) (.inl rfl) v'
  refine ⟨hh, hg, hb.set_ 2 v', (OwnR.of_own ho).turns hT (fun k hk e => (hv k hk).2 e), fun k hk => (hv k hk).1, fun x hx => (hel x hx).turns hT (fun k hk e => ?_)⟩
  rw [hk, hg] at e
  omega
theorem own_one {w : World} {e : TypeId} {s n : Nat} {v : Value} {xs : List Value} (h : w.ownsRow 0 e s v n xs) : v.oneCell' = true := by
  rcases h.2 with ⟨e, _⟩ | ⟨g3, c3, _, e, _⟩ <;> rw [e] <;> rfl
theorem refFree58 {hu : Nat} {c : Nat → Nat} {w : World} {g n : Nat} {le : Int} {V : LkV} (id : Int) (h : RfS hu c w g le n V) (hn : n ≤ 100000) :
    CallP Try.prog 58 #[.pointer (some ⟨g, 0, none⟩), .int .i64 id] (fun u w' => u = .bool (V id).isSome ∧ LeftR hu c w g le n (freeV V id) w') w := by
  obtain ⟨vL, now, M, h, hp, rfl, hl, hn0, hn1, hnew⟩ := h
  refine ⟨S58.calls _ _ _ _ ?_⟩
  unfold S58
  refine (refAt64 id h (by omega)).mono ?_
  rintro r1 _ ⟨hr1, rfl⟩
  rcases hr1 with ⟨i, hi, rfl, hid⟩ | ⟨rfl, hall⟩
  · have hv : absM le now M id = some (M[i].L, le - (now - M[i].new)) := by
      unfold absM
      rw [← hid, find_at hp hi]; rfl
    obtain ⟨A, cL, rfl, hc, hm⟩ := h.rowL.slice
    have c2 : w.cell? ⟨g, 2, none⟩ = some (.slice A M.length cL) := h.blk.cell 2
    (repeat with_reducible first | refine fd f2 (by decide) ?_ | refine ld one76 c2 ?_ | refine nck ?_ | refine cdT ?_ | refine cdF ?_ | refine gdY ?_ | refine gdFT ?_ | refine gdTF ?_ | refine gdU ?_ | refine gaY ?_ | refine gaFT ?_ | refine gaTF ?_ | refine pickT ?_ | refine pickF ?_ | refine bi_lss_t (by omega) ?_ | refine bi_lss_f (by omega) ?_ | refine bi_add64 (by omega) ?_ | refine bi_sub64 (by omega) ?_ | refine bi_eql_t (by omega) ?_ | refine bi_eql_f (by omega) ?_ | refine bi_neq_t (by omega) ?_ | refine bi_neq_f (by omega) ?_ | refine bi_gtr_t (by omega) ?_ | refine bi_gtr_f (by omega) ?_ | refine bi_leq_t (by omega) ?_ | refine bi_leq_f (by omega) ?_ | refine bi_geq_t (by omega) ?_ | refine bi_geq_f (by omega) ?_ | refine bi_xt0 ?_ | refine bi_xt1 ?_ | refine bi_xt2 ?_ | refine bi_xt3 ?_ | refine bi_T ?_ | refine bi_F ?_ | refine bi_not ?_ | refine bi_and ?_ | refine bi_or ?_ | refine bi_xor ?_ | refine bi_shr (by omega) (by decide) ?_ | refine bi_shl (by omega) (by decide) ?_ | refine bi_quo64 (by omega) ?_ | refine bi_rem64 (by omega) ?_ | refine bi_mul64 (by omega) ?_ | refine bi_neg ?_ | refine bi_un_xor32 ?_ | refine bi_add ?_ | refine bi_sub ?_ | refine bi_mul ?_ | refine bi_quo (by decide) ?_ | refine bi_rem (by decide) ?_)
    refine ofPR (pr_cut und76 sz85 .no (.at _ _) .no (Nat.zero_le _) (fun h => by cases h) (show i ≤ cL by omega) (Nat.le_refl _) (.inl rfl)) ?_
    have ht := rRow.cutTo h.rd i (by omega)
    refine apRm w.heap.size und76 inf85 (by rfl) (by decide) (xs := []) (n := 0) (v := .slice none 0 0) ⟨rfl, .inl ⟨rfl, rfl⟩⟩ (Fresh.nil _) (Nat.le_refl _) rkF_len (fun x hx => rkF_one (h.el x (List.mem_of_mem_take hx))) ht (by rw [List.length_take]; omega) (by rw [List.length_take]; omega) ?_
    intro v1 w1 ho1 hf1 hb1
    have h1 := h.below hb1
    have c2' : w1.cell? ⟨g, 2, none⟩ = some (.slice A M.length cL) := h1.blk.cell 2
    (repeat with_reducible first | refine fd f2 (by decide) ?_ | refine ld one76 c2' ?_ | refine addS (show i ≤ 1000000 by omega) ?_ | refine nck ?_ | refine cdT ?_ | refine cdF ?_ | refine gdY ?_ | refine gdFT ?_ | refine gdTF ?_ | refine gdU ?_ | refine gaY ?_ | refine gaFT ?_ | refine gaTF ?_ | refine pickT ?_ | refine pickF ?_ | refine bi_lss_t (by omega) ?_ | refine bi_lss_f (by omega) ?_ | refine bi_add64 (by omega) ?_ | refine bi_sub64 (by omega) ?_ | refine bi_eql_t (by omega) ?_ | refine bi_eql_f (by omega) ?_ | refine bi_neq_t (by omega) ?_ | refine bi_neq_f (by omega) ?_ | refine bi_gtr_t (by omega) ?_ | refine bi_gtr_f (by omega) ?_ | refine bi_leq_t (by omega) ?_ | refine bi_leq_f (by omega) ?_ | refine bi_geq_t (by omega) ?_ | refine bi_geq_f (by omega) ?_ | refine bi_xt0 ?_ | refine bi_xt1 ?_ | refine bi_xt2 ?_ | refine bi_xt3 ?_ | refine bi_T ?_ | refine bi_F ?_ | refine bi_not ?_ | refine bi_and ?_ | refine bi_or ?_ | refine bi_xor ?_ | refine bi_shr (by omega) (by decide) ?_ | refine bi_shl (by omega) (by decide) ?_ | refine bi_quo64 (by omega) ?_ | refine bi_rem64 (by omega) ?_ | refine bi_mul64 (by omega) ?_ | refine bi_neg ?_ | refine bi_un_xor32 ?_ | refine bi_add ?_ | refine bi_sub ?_ | refine bi_mul ?_ | refine bi_quo (by decide) ?_ | refine bi_rem (by decide) ?_)
    refine ofPR (pr_cut und76 sz85 (.at _ _) .no .no (show i + 1 ≤ M.length by omega) (fun _ => by omega) hc (Nat.le_refl _) (.inl rfl)) ?_
    have hd := rRow.cutFrom h1.rd (i + 1) (by omega)
    refine apRm w.heap.size und76 inf85 (by rfl) (by decide) ho1 hf1 hb1.size rkF_len (fun x hx => rkF_one (h1.el x (List.mem_of_mem_drop hx))) hd (by rw [List.length_take, List.length_drop]; omega) (by rw [List.length_take, List.length_drop]; omega) ?_
    intro v2 w2 ho2 hf2 hb2
    have hb2' := hb1.trans hb2
    have h2 := h.below hb2'
    (repeat with_reducible first | refine fd f2 (by decide) ?_ | refine nck ?_ | refine cdT ?_ | refine cdF ?_ | refine gdY ?_ | refine gdFT ?_ | refine gdTF ?_ | refine gdU ?_ | refine gaY ?_ | refine gaFT ?_ | refine gaTF ?_ | refine pickT ?_ | refine pickF ?_ | refine bi_lss_t (by omega) ?_ | refine bi_lss_f (by omega) ?_ | refine bi_add64 (by omega) ?_ | refine bi_sub64 (by omega) ?_ | refine bi_eql_t (by omega) ?_ | refine bi_eql_f (by omega) ?_ | refine bi_neq_t (by omega) ?_ | refine bi_neq_f (by omega) ?_ | refine bi_gtr_t (by omega) ?_ | refine bi_gtr_f (by omega) ?_ | refine bi_leq_t (by omega) ?_ | refine bi_leq_f (by omega) ?_ | refine bi_geq_t (by omega) ?_ | refine bi_geq_f (by omega) ?_ | refine bi_xt0 ?_ | refine bi_xt1 ?_ | refine bi_xt2 ?_ | refine bi_xt3 ?_ | refine bi_T ?_ | refine bi_F ?_ | refine bi_not ?_ | refine bi_and ?_ | refine bi_or ?_ | refine bi_xor ?_ | refine bi_shr (by omega) (by decide) ?_ | refine bi_shl (by omega) (by decide) ?_ | refine bi_quo64 (by omega) ?_ | refine bi_rem64 (by omega) ?_ | refine bi_mul64 (by omega) ?_ | refine bi_neg ?_ | refine bi_un_xor32 ?_ | refine bi_add ?_ | refine bi_sub ?_ | refine bi_mul ?_ | refine bi_quo (by decide) ?_ | refine bi_rem (by decide) ?_)
    refine st sz76 (own_one ho2) (by rw [h2.blk.cell 2]; rfl) (h2.blk.frozen 2) ?_
    have hgl := h.blk.lt
    have hcc := col_lt c w.heap.size hu
    have ho : w2.ownsRow 0 85 3 v2 (M.take i ++ M.drop (i + 1)).length ((M.take i ++ M.drop (i + 1)).flatMap rkF) := by
      rw [List.length_append, List.flatMap_append]
      simpa using ho2
    have hsub : ∀ x ∈ M.take i ++ M.drop (i + 1), x ∈ M := fun x hx => (List.mem_append.1 hx).elim List.mem_of_mem_take List.mem_of_mem_drop
    have hsl : (M.take i ++ M.drop (i + 1)).Sublist M := by
      conv => rhs; rw [← List.take_append_drop i M]
      exact List.Sublist.append (List.Sublist.refl _) (by rw [← List.drop_drop]; exact List.drop_sublist 1 _)
    have hT := Turns.setCell (F := fun k => c k = hu) (p := ⟨g, 2, none⟩) (Turns.of_below hb2') (.inl h.hue) v2
    refine ⟨by rw [hv]; rfl, col c w.heap.size hu, hcc, ⟨v2, now, _, RfAt.rowSet (vL := .slice A M.length cL) h.hh ((hcc g hgl).trans h.hue) h2.blk ho (fun k hk => ⟨col_ge _ _ _ (hf2 k hk), fun e => by have := hf2 k hk; omega⟩) (fun x hx => ((h.re hcc).below hb2').el x (hsub x hx)), hp.sublist hsl, ?_, Nat.le_trans hsl.length_le hl, hn0, hn1, fun x hx => hnew x (hsub x hx)⟩, hT⟩
    funext j
    unfold freeV absM
    by_cases hj : j = id
    · rw [if_pos hj, find_none]
      · rfl
      · intro x hx e
        have hpi := List.pairwise_iff_getElem.1 hp
        rcases List.mem_append.1 hx with hx | hx
        · obtain ⟨k, hk, rfl⟩ := List.getElem_of_mem hx
          rw [List.length_take] at hk
          rw [List.getElem_take] at e
          have := hpi k i (by omega) hi (by omega)
          omega
        · obtain ⟨k, hk, rfl⟩ := List.getElem_of_mem hx
          rw [List.length_drop] at hk
          rw [List.getElem_drop] at e
          have := hpi i (i + 1 + k) hi (by omega) (by omega)
          omega
    · rw [if_neg hj]
      congr 1
      have e : M = M.take i ++ M[i] :: M.drop (i + 1) := by rw [← List.drop_eq_getElem_cons hi, List.take_append_drop]
      conv => rhs; rw [e]
      unfold findM
      rw [List.find?_append, List.find?_append, List.find?_cons, decide_eq_false (fun e => hj (by rw [← hid, e]))]
  · (repeat with_reducible first | refine nck ?_ | refine cdT ?_ | refine cdF ?_ | refine gdY ?_ | refine gdFT ?_ | refine gdTF ?_ | refine gdU ?_ | refine gaY ?_ | refine gaFT ?_ | refine gaTF ?_ | refine pickT ?_ | refine pickF ?_ | refine bi_lss_t (by omega) ?_ | refine bi_lss_f (by omega) ?_ | refine bi_add64 (by omega) ?_ | refine bi_sub64 (by omega) ?_ | refine bi_eql_t (by omega) ?_ | refine bi_eql_f (by omega) ?_ | refine bi_neq_t (by omega) ?_ | refine bi_neq_f (by omega) ?_ | refine bi_gtr_t (by omega) ?_ | refine bi_gtr_f (by omega) ?_ | refine bi_leq_t (by omega) ?_ | refine bi_leq_f (by omega) ?_ | refine bi_geq_t (by omega) ?_ | refine bi_geq_f (by omega) ?_ | refine bi_xt0 ?_ | refine bi_xt1 ?_ | refine bi_xt2 ?_ | refine bi_xt3 ?_ | refine bi_T ?_ | refine bi_F ?_ | refine bi_not ?_ | refine bi_and ?_ | refine bi_or ?_ | refine bi_xor ?_ | refine bi_shr (by omega) (by decide) ?_ | refine bi_shl (by omega) (by decide) ?_ | refine bi_quo64 (by omega) ?_ | refine bi_rem64 (by omega) ?_ | refine bi_mul64 (by omega) ?_ | refine bi_neg ?_ | refine bi_un_xor32 ?_ | refine bi_add ?_ | refine bi_sub ?_ | refine bi_mul ?_ | refine bi_quo (by decide) ?_ | refine bi_rem (by decide) ?_)
    have hv : absM le now M id = none := by unfold absM; rw [find_none hall]; rfl
    refine ⟨by rw [hv]; rfl, c, fun _ _ => rfl, ⟨vL, now, M, h, hp, ?_, hl, hn0, hn1, hnew⟩, Turns.refl _ _⟩
    funext j
    unfold freeV
    split
    · rename_i e; rw [e, hv]
    · rfl
end Go.Proofs.Ytcihbjempijhpaa.E
/- The reference's table of locks: Tick. -/
namespace Go.Proofs.Ytcihbjempijhpaa.E
open Go Go.RowKit
set_option linter.unusedSimpArgs false
set_option linter.unusedVariables false

theorem RfAt.vne {hu : Nat} {c : Nat → Nat} {w : World} {g : Nat} {vL : Value} {le now : Int} {M : List Rk} (h : RfAt hu c w g vL le now M) : ∀ k, vL.ownBlock = some k → k ≠ g := fun k hk e => by
  rcases h.rowL.2 with ⟨h', _⟩ | ⟨g', _, _, h', hbl, _⟩
  · rw [h'] at hk; cases hk
  · rw [h'] at hk
    cases hk
    exact blk_ne h.blk hbl (by decide) e.symm
/-- The clock, or any cell of the table's own block, set: the rows stand. -/
theorem RfAt.turnG {hu : Nat} {c : Nat → Nat} {w w' : World} {g : Nat} {vL : Value} {le now now' : Int} {M : List Rk} (h : RfAt hu c w g vL le now M) (hT : Turns (fun k => k = g) w w') (hb : Blk w' g 78 #[.int .i64 le, .int .i64 now', vL]) : RfAt hu c w' g vL le now' M :=
  ⟨h.hh, h.hue, hb, h.rowL.turns hT (fun k hk e => h.vne k hk e), h.hueL, fun x hx => (h.el x hx).turns hT fun k hk e => by
    rw [hk, h.hue] at e
    have := h.hh.2
    omega⟩
theorem k3_filter (q : List Rg × Int → Bool) (M : List Rk) : (M.filter fun x => q (x.L, x.new)).map k3 = (M.map k3).filter fun p => q p.2 := by
  rw [List.filter_map]; rfl
theorem refTick59 {hu : Nat} {c : Nat → Nat} {w : World} {g n : Nat} {le : Int} {V : LkV} (h : RfS hu c w g le n V) (hok : LkOk 500 le V) (hn : n ≤ 100000) :
    CallP Try.prog 59 #[.pointer (some ⟨g, 0, none⟩)] (fun u w' => LeftR hu c w g le (n + 1) (tickV V) w') w := by
  obtain ⟨vL, now, M, h, hp, rfl, hl, hn0, hn1, hnew⟩ := h
  refine ⟨S59.calls _ _ _ ?_⟩
  unfold S59
  have c1 : w.cell? ⟨g, 1, none⟩ = some (.int .i64 now) := h.blk.cell 1
  (repeat with_reducible first | refine fd f1 (by decide) ?_ | refine ld one3' c1 ?_ | refine nck ?_ | refine cdT ?_ | refine cdF ?_ | refine gdY ?_ | refine gdFT ?_ | refine gdTF ?_ | refine gdU ?_ | refine gaY ?_ | refine gaFT ?_ | refine gaTF ?_ | refine pickT ?_ | refine pickF ?_ | refine bi_lss_t (by omega) ?_ | refine bi_lss_f (by omega) ?_ | refine bi_add64 (by omega) ?_ | refine bi_sub64 (by omega) ?_ | refine bi_eql_t (by omega) ?_ | refine bi_eql_f (by omega) ?_ | refine bi_neq_t (by omega) ?_ | refine bi_neq_f (by omega) ?_ | refine bi_gtr_t (by omega) ?_ | refine bi_gtr_f (by omega) ?_ | refine bi_leq_t (by omega) ?_ | refine bi_leq_f (by omega) ?_ | refine bi_geq_t (by omega) ?_ | refine bi_geq_f (by omega) ?_ | refine bi_xt0 ?_ | refine bi_xt1 ?_ | refine bi_xt2 ?_ | refine bi_xt3 ?_ | refine bi_T ?_ | refine bi_F ?_ | refine bi_not ?_ | refine bi_and ?_ | refine bi_or ?_ | refine bi_xor ?_ | refine bi_shr (by omega) (by decide) ?_ | refine bi_shl (by omega) (by decide) ?_ | refine bi_quo64 (by omega) ?_ | refine bi_rem64 (by omega) ?_ | refine bi_mul64 (by omega) ?_ | refine bi_neg ?_ | refine bi_un_xor32 ?_ | refine bi_add ?_ | refine bi_sub ?_ | refine bi_mul ?_ | refine bi_quo (by decide) ?_ | refine bi_rem (by decide) ?_)
  refine st sz3' rfl (by rw [h.blk.cell 1]; rfl) (h.blk.frozen 1) ?_
  have hT1 := Turns.setCell (F := fun k => k = g) (p := ⟨g, 1, none⟩) (Turns.refl _ w) (.inl rfl) (.int .i64 (now + 1))
  have h1 : RfAt hu c _ g vL le (now + 1) M := h.turnG hT1 (h.blk.set_ 1 (.int .i64 (now + 1)))
  generalize w.setCell ⟨g, 1, none⟩ (.int .i64 (now + 1)) = w1 at *
  have hs1 := hT1.size
  obtain ⟨A, cL, rfl, hc, hm⟩ := h1.rowL.slice
  refine LoopP.inv2 (fun ov iv w' => ∃ k : Nat, k ≤ M.length ∧ iv = .int .i64 k ∧ w'.ownsRow 0 85 3 ov ((M.take k).filter fun x => decide (now + 1 - x.new < le)).length (((M.take k).filter fun x => decide (now + 1 - x.new < le)).flatMap rkF) ∧ Fresh w1.heap.size ov ∧ Below w1.heap.size w1 w') (fun _ iv _ => M.length - (intOf iv).toNat)
    ⟨0, by omega, rfl, ⟨rfl, .inl ⟨rfl, rfl⟩⟩, Fresh.nil _, Below.refl _ _⟩ ?_
  rintro ov _ w2 ⟨k, hk, rfl, hown, hfr, hb2⟩ J hJ
  have h2 := h1.below hb2
  have hs2 := hb2.size
  have c2 : w2.cell? ⟨g, 2, none⟩ = some (.slice A M.length cL) := h2.blk.cell 2
  dsimp only [List.headD_cons, List.tail_cons]
  (repeat with_reducible first | refine fd f2 (by decide) ?_ | refine ld one76 c2 ?_ | refine nck ?_ | refine cdT ?_ | refine cdF ?_ | refine gdY ?_ | refine gdFT ?_ | refine gdTF ?_ | refine gdU ?_ | refine gaY ?_ | refine gaFT ?_ | refine gaTF ?_ | refine pickT ?_ | refine pickF ?_ | refine bi_lss_t (by omega) ?_ | refine bi_lss_f (by omega) ?_ | refine bi_add64 (by omega) ?_ | refine bi_sub64 (by omega) ?_ | refine bi_eql_t (by omega) ?_ | refine bi_eql_f (by omega) ?_ | refine bi_neq_t (by omega) ?_ | refine bi_neq_f (by omega) ?_ | refine bi_gtr_t (by omega) ?_ | refine bi_gtr_f (by omega) ?_ | refine bi_leq_t (by omega) ?_ | refine bi_leq_f (by omega) ?_ | refine bi_geq_t (by omega) ?_ | refine bi_geq_f (by omega) ?_ | refine bi_xt0 ?_ | refine bi_xt1 ?_ | refine bi_xt2 ?_ | refine bi_xt3 ?_ | refine bi_T ?_ | refine bi_F ?_ | refine bi_not ?_ | refine bi_and ?_ | refine bi_or ?_ | refine bi_xor ?_ | refine bi_shr (by omega) (by decide) ?_ | refine bi_shl (by omega) (by decide) ?_ | refine bi_quo64 (by omega) ?_ | refine bi_rem64 (by omega) ?_ | refine bi_mul64 (by omega) ?_ | refine bi_neg ?_ | refine bi_un_xor32 ?_ | refine bi_add ?_ | refine bi_sub ?_ | refine bi_mul ?_ | refine bi_quo (by decide) ?_ | refine bi_rem (by decide) ?_)
  refine ln und76 ?_
  refine bi_lss_c (fun hlt => ?_) (fun hlt => ?_)
  · have hk' : k < M.length := by omega
    obtain ⟨gL, cL', he, _⟩ := h2.at k hk'
    cases he
    have hnk := hnew M[k] (List.getElem_mem hk')
    have hfl : ((M.take k).filter fun x => decide (now + 1 - x.new < le)).length ≤ k := by
      have := List.length_filter_le (fun x => decide (now + 1 - x.new < le)) (M.take k)
      rw [List.length_take] at this; omega
    (repeat with_reducible first | refine nck ?_ | refine cdT ?_ | refine cdF ?_ | refine gdY ?_ | refine gdFT ?_ | refine gdTF ?_ | refine gdU ?_ | refine gaY ?_ | refine gaFT ?_ | refine gaTF ?_ | refine pickT ?_ | refine pickF ?_ | refine bi_lss_t (by omega) ?_ | refine bi_lss_f (by omega) ?_ | refine bi_add64 (by omega) ?_ | refine bi_sub64 (by omega) ?_ | refine bi_eql_t (by omega) ?_ | refine bi_eql_f (by omega) ?_ | refine bi_neq_t (by omega) ?_ | refine bi_neq_f (by omega) ?_ | refine bi_gtr_t (by omega) ?_ | refine bi_gtr_f (by omega) ?_ | refine bi_leq_t (by omega) ?_ | refine bi_leq_f (by omega) ?_ | refine bi_geq_t (by omega) ?_ | refine bi_geq_f (by omega) ?_ | refine bi_xt0 ?_ | refine bi_xt1 ?_ | refine bi_xt2 ?_ | refine bi_xt3 ?_ | refine bi_T ?_ | refine bi_F ?_ | refine bi_not ?_ | refine bi_and ?_ | refine bi_or ?_ | refine bi_xor ?_ | refine bi_shr (by omega) (by decide) ?_ | refine bi_shl (by omega) (by decide) ?_ | refine bi_quo64 (by omega) ?_ | refine bi_rem64 (by omega) ?_ | refine bi_mul64 (by omega) ?_ | refine bi_neg ?_ | refine bi_un_xor32 ?_ | refine bi_add ?_ | refine bi_sub ?_ | refine bi_mul ?_ | refine bi_quo (by decide) ?_ | refine bi_rem (by decide) ?_)
    refine JoinP.cut (fun xs w' => ∃ ov', xs = [ov'] ∧ w'.ownsRow 0 85 3 ov' ((M.take (k + 1)).filter fun x => decide (now + 1 - x.new < le)).length (((M.take (k + 1)).filter fun x => decide (now + 1 - x.new < le)).flatMap rkF) ∧ Fresh w1.heap.size ov' ∧ Below w1.heap.size w1 w') (fun J1 hJ1 => ?_) (fun xs w' hI => ?_)
    · have hdr : Below w2.heap.size w2 w2.drew := (Below.refl _ _).drew
      have s0 : ∀ w', Below w2.heap.size w2 w' → w'.cell? ⟨g, 0, none⟩ = some (.int .i64 le) := fun w' hw => (h2.below hw).blk.cell 0
      have s1 : ∀ w', Below w2.heap.size w2 w' → w'.cell? ⟨g, 1, none⟩ = some (.int .i64 (now + 1)) := fun w' hw => (h2.below hw).blk.cell 1
      have s2 : ∀ w', Below w2.heap.size w2 w' → w'.cell? ⟨g, 2, none⟩ = some (.slice (some ⟨gL, 0, none⟩) M.length cL) := fun w' hw => (h2.below hw).blk.cell 2
      have sn : ∀ w', Below w2.heap.size w2 w' → w'.cell? ⟨gL, k * 3 + 2, none⟩ = some (.int .i64 M[k].new) := fun w' hw => by
        obtain ⟨gL', cL', he, _, _, d2, _⟩ := (h2.below hw).at k hk'
        cases he; exact d2
      refine draw (Below w2.heap.size w2) hdr ?_
      have h3 := h2.below hdr
      have hb3 := below_then hb2 hdr
      have hs3 := hb3.size
      have hown3 := ownsRow_turns hown (Turns.of_below (F := fun _ => False) hdr) (fun _ _ h => h)
      have c3 := s2 _ hdr
      generalize w2.drew = w3 at *
      (repeat with_reducible first | refine yfd f1 (by decide) ?_ | refine yl1 one3' s1 ?_ | refine yfd f2 (by decide) ?_ | refine yl1 one76 s2 ?_ | refine yixG und76 sz85 k hk' ?_ | refine yfdG o2 (by decide) ?_ | refine yl1 one3' sn ?_ | refine yfd f0 (by decide) ?_ | refine yl1 one3' s0 ?_ | refine ynck ?_ | refine nck ?_ | refine cdT ?_ | refine cdF ?_ | refine gdY ?_ | refine gdFT ?_ | refine gdTF ?_ | refine gdU ?_ | refine gaY ?_ | refine gaFT ?_ | refine gaTF ?_ | refine pickT ?_ | refine pickF ?_ | refine yi_lss_t (by omega) ?_ | refine yi_lss_f (by omega) ?_ | refine yi_add64 (by omega) ?_ | refine yi_sub64 (by omega) ?_ | refine yi_eql_t (by omega) ?_ | refine yi_eql_f (by omega) ?_ | refine yi_neq_t (by omega) ?_ | refine yi_neq_f (by omega) ?_ | refine yi_gtr_t (by omega) ?_ | refine yi_gtr_f (by omega) ?_ | refine yi_leq_t (by omega) ?_ | refine yi_leq_f (by omega) ?_ | refine yi_geq_t (by omega) ?_ | refine yi_geq_f (by omega) ?_ | refine yi_xt0 ?_ | refine yi_xt1 ?_ | refine yi_xt2 ?_ | refine yi_xt3 ?_ | refine yi_T ?_ | refine yi_F ?_ | refine yi_not ?_ | refine yi_and ?_ | refine yi_or ?_ | refine yi_xor ?_ | refine yi_shr (by omega) (by decide) ?_ | refine yi_shl (by omega) (by decide) ?_ | refine yi_quo64 (by omega) ?_ | refine yi_rem64 (by omega) ?_ | refine yi_mul64 (by omega) ?_ | refine yi_neg ?_ | refine yi_un_xor32 ?_ | refine yi_add ?_ | refine yi_sub ?_ | refine yi_mul ?_ | refine yi_quo (by decide) ?_ | refine yi_rem (by decide) ?_)
      refine yi_lss_c (fun hq => ?_) (fun hq => ?_)
      · (repeat with_reducible first | refine ynck ?_ | refine nck ?_ | refine cdT ?_ | refine cdF ?_ | refine gdY ?_ | refine gdFT ?_ | refine gdTF ?_ | refine gdU ?_ | refine gaY ?_ | refine gaFT ?_ | refine gaTF ?_ | refine pickT ?_ | refine pickF ?_ | refine yi_lss_t (by omega) ?_ | refine yi_lss_f (by omega) ?_ | refine yi_add64 (by omega) ?_ | refine yi_sub64 (by omega) ?_ | refine yi_eql_t (by omega) ?_ | refine yi_eql_f (by omega) ?_ | refine yi_neq_t (by omega) ?_ | refine yi_neq_f (by omega) ?_ | refine yi_gtr_t (by omega) ?_ | refine yi_gtr_f (by omega) ?_ | refine yi_leq_t (by omega) ?_ | refine yi_leq_f (by omega) ?_ | refine yi_geq_t (by omega) ?_ | refine yi_geq_f (by omega) ?_ | refine yi_xt0 ?_ | refine yi_xt1 ?_ | refine yi_xt2 ?_ | refine yi_xt3 ?_ | refine yi_T ?_ | refine yi_F ?_ | refine yi_not ?_ | refine yi_and ?_ | refine yi_or ?_ | refine yi_xor ?_ | refine yi_shr (by omega) (by decide) ?_ | refine yi_shl (by omega) (by decide) ?_ | refine yi_quo64 (by omega) ?_ | refine yi_rem64 (by omega) ?_ | refine yi_mul64 (by omega) ?_ | refine yi_neg ?_ | refine yi_un_xor32 ?_ | refine yi_add ?_ | refine yi_sub ?_ | refine yi_mul ?_ | refine yi_quo (by decide) ?_ | refine yi_rem (by decide) ?_)
        (repeat with_reducible first | refine fd f2 (by decide) ?_ | refine ld one76 c3 ?_ | refine ixG und76 sz85 k hk' ?_ | refine nck ?_ | refine cdT ?_ | refine cdF ?_ | refine gdY ?_ | refine gdFT ?_ | refine gdTF ?_ | refine gdU ?_ | refine gaY ?_ | refine gaFT ?_ | refine gaTF ?_ | refine pickT ?_ | refine pickF ?_ | refine bi_lss_t (by omega) ?_ | refine bi_lss_f (by omega) ?_ | refine bi_add64 (by omega) ?_ | refine bi_sub64 (by omega) ?_ | refine bi_eql_t (by omega) ?_ | refine bi_eql_f (by omega) ?_ | refine bi_neq_t (by omega) ?_ | refine bi_neq_f (by omega) ?_ | refine bi_gtr_t (by omega) ?_ | refine bi_gtr_f (by omega) ?_ | refine bi_leq_t (by omega) ?_ | refine bi_leq_f (by omega) ?_ | refine bi_geq_t (by omega) ?_ | refine bi_geq_f (by omega) ?_ | refine bi_xt0 ?_ | refine bi_xt1 ?_ | refine bi_xt2 ?_ | refine bi_xt3 ?_ | refine bi_T ?_ | refine bi_F ?_ | refine bi_not ?_ | refine bi_and ?_ | refine bi_or ?_ | refine bi_xor ?_ | refine bi_shr (by omega) (by decide) ?_ | refine bi_shl (by omega) (by decide) ?_ | refine bi_quo64 (by omega) ?_ | refine bi_rem64 (by omega) ?_ | refine bi_mul64 (by omega) ?_ | refine bi_neg ?_ | refine bi_un_xor32 ?_ | refine bi_add ?_ | refine bi_sub ?_ | refine bi_mul ?_ | refine bi_quo (by decide) ?_ | refine bi_rem (by decide) ?_)
        obtain ⟨gL', cL', he, _, _, _, hcell⟩ := h3.at k hk'
        cases he
        refine ldR (us := rkF M[k]) agg85 (fun j u hu => by rw [add0]; exact hcell j u hu) (by rw [sz85]; rfl) ?_
        refine apOne und76 inf85 (by rfl) (by decide) hown3 (rkF_len _) (rkF_one (h3.el _ (List.getElem_mem hk'))) (by omega) (by omega) (by kernel_rfl) ?_
        intro v4 w4 ho4 hbl4 hT4
        refine hJ1 _ _ ⟨_, rfl, ?_, hfr.one hs3 hbl4, hb3.trans (hT4.fresh hfr hs3)⟩
        rw [List.take_succ_eq_append_getElem hk', List.filter_append, List.filter_cons, if_pos (by simpa using hq), List.filter_nil, List.length_append, List.flatMap_append]
        simpa using ho4
      · (repeat with_reducible first | refine ynck ?_ | refine nck ?_ | refine cdT ?_ | refine cdF ?_ | refine gdY ?_ | refine gdFT ?_ | refine gdTF ?_ | refine gdU ?_ | refine gaY ?_ | refine gaFT ?_ | refine gaTF ?_ | refine pickT ?_ | refine pickF ?_ | refine yi_lss_t (by omega) ?_ | refine yi_lss_f (by omega) ?_ | refine yi_add64 (by omega) ?_ | refine yi_sub64 (by omega) ?_ | refine yi_eql_t (by omega) ?_ | refine yi_eql_f (by omega) ?_ | refine yi_neq_t (by omega) ?_ | refine yi_neq_f (by omega) ?_ | refine yi_gtr_t (by omega) ?_ | refine yi_gtr_f (by omega) ?_ | refine yi_leq_t (by omega) ?_ | refine yi_leq_f (by omega) ?_ | refine yi_geq_t (by omega) ?_ | refine yi_geq_f (by omega) ?_ | refine yi_xt0 ?_ | refine yi_xt1 ?_ | refine yi_xt2 ?_ | refine yi_xt3 ?_ | refine yi_T ?_ | refine yi_F ?_ | refine yi_not ?_ | refine yi_and ?_ | refine yi_or ?_ | refine yi_xor ?_ | refine yi_shr (by omega) (by decide) ?_ | refine yi_shl (by omega) (by decide) ?_ | refine yi_quo64 (by omega) ?_ | refine yi_rem64 (by omega) ?_ | refine yi_mul64 (by omega) ?_ | refine yi_neg ?_ | refine yi_un_xor32 ?_ | refine yi_add ?_ | refine yi_sub ?_ | refine yi_mul ?_ | refine yi_quo (by decide) ?_ | refine yi_rem (by decide) ?_)
        refine hJ1 _ _ ⟨_, rfl, ?_, hfr, hb3⟩
        rw [List.take_succ_eq_append_getElem hk', List.filter_append, List.filter_cons, if_neg (by simpa using hq), List.filter_nil, List.append_nil]
        exact hown3
    · obtain ⟨ov', rfl, q1, q2, q3⟩ := hI
      dsimp only [List.headD_cons, List.tail_cons]
      (repeat with_reducible first | refine nck ?_ | refine cdT ?_ | refine cdF ?_ | refine gdY ?_ | refine gdFT ?_ | refine gdTF ?_ | refine gdU ?_ | refine gaY ?_ | refine gaFT ?_ | refine gaTF ?_ | refine pickT ?_ | refine pickF ?_ | refine bi_lss_t (by omega) ?_ | refine bi_lss_f (by omega) ?_ | refine bi_add64 (by omega) ?_ | refine bi_sub64 (by omega) ?_ | refine bi_eql_t (by omega) ?_ | refine bi_eql_f (by omega) ?_ | refine bi_neq_t (by omega) ?_ | refine bi_neq_f (by omega) ?_ | refine bi_gtr_t (by omega) ?_ | refine bi_gtr_f (by omega) ?_ | refine bi_leq_t (by omega) ?_ | refine bi_leq_f (by omega) ?_ | refine bi_geq_t (by omega) ?_ | refine bi_geq_f (by omega) ?_ | refine bi_xt0 ?_ | refine bi_xt1 ?_ | refine bi_xt2 ?_ | refine bi_xt3 ?_ | refine bi_T ?_ | refine bi_F ?_ | refine bi_not ?_ | refine bi_and ?_ | refine bi_or ?_ | refine bi_xor ?_ | refine bi_shr (by omega) (by decide) ?_ | refine bi_shl (by omega) (by decide) ?_ | refine bi_quo64 (by omega) ?_ | refine bi_rem64 (by omega) ?_ | refine bi_mul64 (by omega) ?_ | refine bi_neg ?_ | refine bi_un_xor32 ?_ | refine bi_add ?_ | refine bi_sub ?_ | refine bi_mul ?_ | refine bi_quo (by decide) ?_ | refine bi_rem (by decide) ?_)
      exact hJ _ _ _ ⟨k + 1, by omega, by simp, q1, q2, q3⟩ (by simp [intOf]; omega)
  · have : k = M.length := by omega
    subst this
    rw [List.take_length] at hown
    (repeat with_reducible first | refine fd f2 (by decide) ?_ | refine nck ?_ | refine cdT ?_ | refine cdF ?_ | refine gdY ?_ | refine gdFT ?_ | refine gdTF ?_ | refine gdU ?_ | refine gaY ?_ | refine gaFT ?_ | refine gaTF ?_ | refine pickT ?_ | refine pickF ?_ | refine bi_lss_t (by omega) ?_ | refine bi_lss_f (by omega) ?_ | refine bi_add64 (by omega) ?_ | refine bi_sub64 (by omega) ?_ | refine bi_eql_t (by omega) ?_ | refine bi_eql_f (by omega) ?_ | refine bi_neq_t (by omega) ?_ | refine bi_neq_f (by omega) ?_ | refine bi_gtr_t (by omega) ?_ | refine bi_gtr_f (by omega) ?_ | refine bi_leq_t (by omega) ?_ | refine bi_leq_f (by omega) ?_ | refine bi_geq_t (by omega) ?_ | refine bi_geq_f (by omega) ?_ | refine bi_xt0 ?_ | refine bi_xt1 ?_ | refine bi_xt2 ?_ | refine bi_xt3 ?_ | refine bi_T ?_ | refine bi_F ?_ | refine bi_not ?_ | refine bi_and ?_ | refine bi_or ?_ | refine bi_xor ?_ | refine bi_shr (by omega) (by decide) ?_ | refine bi_shl (by omega) (by decide) ?_ | refine bi_quo64 (by omega) ?_ | refine bi_rem64 (by omega) ?_ | refine bi_mul64 (by omega) ?_ | refine bi_neg ?_ | refine bi_un_xor32 ?_ | refine bi_add ?_ | refine bi_sub ?_ | refine bi_mul ?_ | refine bi_quo (by decide) ?_ | refine bi_rem (by decide) ?_)
    refine st sz76 (own_one hown) (by rw [h2.blk.cell 2]; rfl) (h2.blk.frozen 2) ?_
    have hgl := h.blk.lt
    have hcc := col_lt c w1.heap.size hu
    have hsub : ∀ x ∈ M.filter (fun x => decide (now + 1 - x.new < le)), x ∈ M := fun x hx => (List.mem_filter.1 hx).1
    have hsl : (M.filter fun x => decide (now + 1 - x.new < le)).Sublist M := List.filter_sublist
    have hT2 : Turns (fun k => k = g) w w2 := hT1.then_below hb2
    have hT := Turns.setCell (F := fun k => c k = hu) (p := ⟨g, 2, none⟩) (hT2.mono fun k _ e => by rw [e]; exact h.hue) (.inl h.hue) ov
    refine ⟨col c w1.heap.size hu, fun k hk => hcc k (by omega), ⟨ov, now + 1, _, RfAt.rowSet (vL := .slice A M.length cL) h.hh ((hcc g (by omega)).trans h.hue) h2.blk hown (fun k hk => ⟨col_ge _ _ _ (hfr k hk), fun e => by have := hfr k hk; omega⟩) (fun x hx => ((h1.re hcc).below hb2).el x (hsub x hx)), hp.sublist hsl, ?_, Nat.le_trans hsl.length_le (by omega), by omega, by omega, fun x hx => by have := hnew x (hsub x hx); omega⟩, hT⟩
    funext j
    have hkf := k3_filter (fun p => decide (now + 1 - p.2 < le)) M
    rw [abs_getK]
    unfold tickV
    have e := abs_getK le now j M
    have hkj := hok j
    rw [e] at hkj ⊢
    rw [show (M.filter fun x => decide (now + 1 - x.new < le)).map k3 = (M.map k3).filter fun p => decide (now + 1 - p.2.2 < le) from hkf, getK_filter_val _ j (k3_nodup hp)]
    cases hgk : getK j (M.map k3) with
    | none => rfl
    | some p =>
      rw [hgk] at hkj
      obtain ⟨_, _, hne, _, hle1, _⟩ := hkj _ _ rfl
      simp only [Option.bind_some, Option.map_some, sweepF]
      by_cases hq : now + 1 - p.2 < le
      · rw [if_pos (by simpa using hq), if_neg (fun e => e.elim (fun e => by omega) hne)]
        simp only [Option.map_some, Option.some.injEq, Prod.mk.injEq, true_and]
        omega
      · rw [if_neg (by simpa using hq), if_pos (.inl (by omega))]
        rfl
end Go.Proofs.Ytcihbjempijhpaa.E
/- The reference's table of locks: Lose. -/
namespace Go.Proofs.Ytcihbjempijhpaa.E
open Go Go.RowKit
set_option linter.unusedSimpArgs false
set_option linter.unusedVariables false

theorem z85 : (Try.prog.info? 85).bind (·.zero) = some (.agg #[.int .i64 0, .slice none 0 0, .int .i64 0]) := by kernel_rfl
def loseF (r : Rg) (p : Int × (List Rg × Int)) : Int × (List Rg × Int) := (p.1, (mns p.2.1 r, p.2.2))
def fullQ (p : Int × (List Rg × Int)) : Bool := decide (p.2.1 ≠ [])
/-- The locks that are left, in memory. -/
structure NewAt (B : Nat) (w : World) (v : Value) (M : List Rk) : Prop where
  row : w.ownsRow 0 85 3 v M.length (M.flatMap rkF)
  fr : Fresh B v
  el : ∀ x ∈ M, OwnR 2 23 w x.v x.L.length (x.L.flatMap rgF) ∧ Fresh B x.v
theorem NewAt.kept {B : Nat} {w w' : World} {v : Value} {M : List Rk} (h : NewAt B w v M) (hb : Below w.heap.size w w') : NewAt B w' v M :=
  ⟨ownsRow_turns h.row (Turns.of_below (F := fun _ => False) hb) (fun _ _ h => h), h.fr, fun x hx => ⟨(h.el x hx).1.below hb, (h.el x hx).2⟩⟩
theorem NewAt.apart {B : Nat} {w : World} {v : Value} {M : List Rk} (h : NewAt B w v M) {x : Rk} (hx : OwnR 2 23 w x.v x.L.length (x.L.flatMap rgF)) : ∀ k, x.v.ownBlock = some k → ¬ v.ownBlock = some k := fun k hk e => by
  rcases h.row.2 with ⟨h', _⟩ | ⟨g', _, _, h', _, hbl, _⟩
  · rw [h'] at e; cases e
  · rw [h'] at e
    cases e
    rcases hx.2 with ⟨h2, _⟩ | ⟨g2, _, _, h2, hb2, _⟩
    · rw [h2] at hk; cases hk
    · rw [h2] at hk
      cases hk
      exact blk_ne hb2 hbl (by decide) rfl
theorem NewAt.re {hu B : Nat} {c : Nat → Nat} {w : World} {v : Value} {M : List Rk} (h : NewAt B w v M) :
    ∃ c', (∀ k, k < B → c' k = c k) ∧ (∀ k, v.ownBlock = some k → c' k = hu) ∧ ∀ x ∈ M, RkAt c' w x := by
  refine ⟨fun k => if k < B then c k else if v.ownBlock = some k then hu else 999, fun k hk => if_pos hk, fun k hk => ?_, fun x hx => ⟨(h.el x hx).1, fun k hk => ?_⟩⟩
  · have := h.fr k hk
    show (if k < B then c k else if v.ownBlock = some k then hu else 999) = hu
    rw [if_neg (by omega), if_pos hk]
  · have := (h.el x hx).2 k hk
    show (if k < B then c k else if v.ownBlock = some k then hu else 999) = 999
    rw [if_neg (by omega), if_neg (h.apart (h.el x hx).1 k hk)]
theorem one_of {w : World} {x : Rk} (h : OwnR 2 23 w x.v x.L.length (x.L.flatMap rgF)) : ∀ u ∈ rkF x, u.oneCell' = true := by
  intro u hu
  obtain ⟨A, n, e, _⟩ := h.slice
  simp only [rkF, List.mem_cons, List.not_mem_nil, or_false] at hu
  rcases hu with rfl | rfl | rfl
  · rfl
  · rw [e]; rfl
  · rfl
theorem refLose60 {hu : Nat} {c : Nat → Nat} {w : World} {g n : Nat} {le : Int} {V : LkV} (r : Rg) (h : RfS hu c w g le n V) (hok : LkOk 500 le V) (hn : n ≤ 100000) :
    CallP Try.prog 60 #[.pointer (some ⟨g, 0, none⟩), rgV r] (fun u w' => LeftR hu c w g le n (loseV V r) w') w := by
  obtain ⟨vL, now, M, h, hp, rfl, hl, hn0, hn1, hnew⟩ := h
  refine ⟨S60.calls _ _ _ _ ?_⟩
  unfold S60
  refine bxB ?_
  intro gr w1 hgr hR1 hb1
  have h1 := h.below hb1
  have hs1 := hb1.size
  obtain ⟨A, cL, rfl, hc, hm⟩ := h1.rowL.slice
  refine LoopP.inv2 (fun ov iv w' => ∃ (k : Nat) (Mo : List Rk), k ≤ M.length ∧ iv = .int .i64 k ∧ NewAt w1.heap.size w' ov Mo ∧ Mo.map k3 = (((M.take k).map k3).map (loseF r)).filter fullQ ∧ Below w1.heap.size w1 w') (fun _ iv _ => M.length - (intOf iv).toNat)
    ⟨0, [], by omega, rfl, ⟨⟨rfl, .inl ⟨rfl, rfl⟩⟩, Fresh.nil _, fun x hx => by simp at hx⟩, rfl, Below.refl _ _⟩ ?_
  rintro ov _ w2 ⟨k, Mo, hk, rfl, hN, hMo, hb2⟩ J hJ
  have h2 := h1.below hb2
  have hs2 := hb2.size
  have c2 : w2.cell? ⟨g, 2, none⟩ = some (.slice A M.length cL) := h2.blk.cell 2
  have hMl : Mo.length ≤ k := by
    have e := congrArg List.length hMo
    rw [List.length_map] at e
    have := List.length_filter_le fullQ (((M.take k).map k3).map (loseF r))
    rw [List.length_map, List.length_map, List.length_take] at this
    omega
  dsimp only [List.headD_cons, List.tail_cons]
  (repeat with_reducible first | refine fd f2 (by decide) ?_ | refine ld one76 c2 ?_ | refine nck ?_ | refine cdT ?_ | refine cdF ?_ | refine gdY ?_ | refine gdFT ?_ | refine gdTF ?_ | refine gdU ?_ | refine gaY ?_ | refine gaFT ?_ | refine gaTF ?_ | refine pickT ?_ | refine pickF ?_ | refine bi_lss_t (by omega) ?_ | refine bi_lss_f (by omega) ?_ | refine bi_add64 (by omega) ?_ | refine bi_sub64 (by omega) ?_ | refine bi_eql_t (by omega) ?_ | refine bi_eql_f (by omega) ?_ | refine bi_neq_t (by omega) ?_ | refine bi_neq_f (by omega) ?_ | refine bi_gtr_t (by omega) ?_ | refine bi_gtr_f (by omega) ?_ | refine bi_leq_t (by omega) ?_ | refine bi_leq_f (by omega) ?_ | refine bi_geq_t (by omega) ?_ | refine bi_geq_f (by omega) ?_ | refine bi_xt0 ?_ | refine bi_xt1 ?_ | refine bi_xt2 ?_ | refine bi_xt3 ?_ | refine bi_T ?_ | refine bi_F ?_ | refine bi_not ?_ | refine bi_and ?_ | refine bi_or ?_ | refine bi_xor ?_ | refine bi_shr (by omega) (by decide) ?_ | refine bi_shl (by omega) (by decide) ?_ | refine bi_quo64 (by omega) ?_ | refine bi_rem64 (by omega) ?_ | refine bi_mul64 (by omega) ?_ | refine bi_neg ?_ | refine bi_un_xor32 ?_ | refine bi_add ?_ | refine bi_sub ?_ | refine bi_mul ?_ | refine bi_quo (by decide) ?_ | refine bi_rem (by decide) ?_)
  refine ln und76 ?_
  refine bi_lss_c (fun hlt => ?_) (fun hlt => ?_)
  · have hk' : k < M.length := by omega
    obtain ⟨gL, cL', he, _, _, _, hcell⟩ := h2.at k hk'
    cases he
    have hstep : (((M.take (k + 1)).map k3).map (loseF r)).filter fullQ = Mo.map k3 ++ if mns M[k].L r ≠ [] then [(M[k].id, (mns M[k].L r, M[k].new))] else [] := by
      rw [List.take_succ_eq_append_getElem hk', List.map_append, List.map_append, List.filter_append, ← hMo]
      congr 1
      simp only [List.map_cons, List.map_nil, List.filter_cons, List.filter_nil, loseF, k3, fullQ, decide_eq_true_eq]
    have hv : absM le now M M[k].id = some (M[k].L, le - (now - M[k].new)) := by
      unfold absM
      rw [find_at hp hk']; rfl
    obtain ⟨_, _, _, hlen, _⟩ := hok _ _ _ hv
    (repeat with_reducible first | refine nck ?_ | refine cdT ?_ | refine cdF ?_ | refine gdY ?_ | refine gdFT ?_ | refine gdTF ?_ | refine gdU ?_ | refine gaY ?_ | refine gaFT ?_ | refine gaTF ?_ | refine pickT ?_ | refine pickF ?_ | refine bi_lss_t (by omega) ?_ | refine bi_lss_f (by omega) ?_ | refine bi_add64 (by omega) ?_ | refine bi_sub64 (by omega) ?_ | refine bi_eql_t (by omega) ?_ | refine bi_eql_f (by omega) ?_ | refine bi_neq_t (by omega) ?_ | refine bi_neq_f (by omega) ?_ | refine bi_gtr_t (by omega) ?_ | refine bi_gtr_f (by omega) ?_ | refine bi_leq_t (by omega) ?_ | refine bi_leq_f (by omega) ?_ | refine bi_geq_t (by omega) ?_ | refine bi_geq_f (by omega) ?_ | refine bi_xt0 ?_ | refine bi_xt1 ?_ | refine bi_xt2 ?_ | refine bi_xt3 ?_ | refine bi_T ?_ | refine bi_F ?_ | refine bi_not ?_ | refine bi_and ?_ | refine bi_or ?_ | refine bi_xor ?_ | refine bi_shr (by omega) (by decide) ?_ | refine bi_shl (by omega) (by decide) ?_ | refine bi_quo64 (by omega) ?_ | refine bi_rem64 (by omega) ?_ | refine bi_mul64 (by omega) ?_ | refine bi_neg ?_ | refine bi_un_xor32 ?_ | refine bi_add ?_ | refine bi_sub ?_ | refine bi_mul ?_ | refine bi_quo (by decide) ?_ | refine bi_rem (by decide) ?_)
    refine JoinP.cut (fun xs w' => ∃ ov' Mo', xs = [ov'] ∧ NewAt w1.heap.size w' ov' Mo' ∧ Mo'.map k3 = (((M.take (k + 1)).map k3).map (loseF r)).filter fullQ ∧ Below w1.heap.size w1 w') (fun J1 hJ1 => ?_) (fun xs w' hI => ?_)
    · (repeat with_reducible first | refine fd f2 (by decide) ?_ | refine ld one76 c2 ?_ | refine ixG und76 sz85 k hk' ?_ | refine nck ?_ | refine cdT ?_ | refine cdF ?_ | refine gdY ?_ | refine gdFT ?_ | refine gdTF ?_ | refine gdU ?_ | refine gaY ?_ | refine gaFT ?_ | refine gaTF ?_ | refine pickT ?_ | refine pickF ?_ | refine bi_lss_t (by omega) ?_ | refine bi_lss_f (by omega) ?_ | refine bi_add64 (by omega) ?_ | refine bi_sub64 (by omega) ?_ | refine bi_eql_t (by omega) ?_ | refine bi_eql_f (by omega) ?_ | refine bi_neq_t (by omega) ?_ | refine bi_neq_f (by omega) ?_ | refine bi_gtr_t (by omega) ?_ | refine bi_gtr_f (by omega) ?_ | refine bi_leq_t (by omega) ?_ | refine bi_leq_f (by omega) ?_ | refine bi_geq_t (by omega) ?_ | refine bi_geq_f (by omega) ?_ | refine bi_xt0 ?_ | refine bi_xt1 ?_ | refine bi_xt2 ?_ | refine bi_xt3 ?_ | refine bi_T ?_ | refine bi_F ?_ | refine bi_not ?_ | refine bi_and ?_ | refine bi_or ?_ | refine bi_xor ?_ | refine bi_shr (by omega) (by decide) ?_ | refine bi_shl (by omega) (by decide) ?_ | refine bi_quo64 (by omega) ?_ | refine bi_rem64 (by omega) ?_ | refine bi_mul64 (by omega) ?_ | refine bi_neg ?_ | refine bi_un_xor32 ?_ | refine bi_add ?_ | refine bi_sub ?_ | refine bi_mul ?_ | refine bi_quo (by decide) ?_ | refine bi_rem (by decide) ?_)
      refine ldR (us := rkF M[k]) agg85 (fun j u hu => by rw [add0]; exact hcell j u hu) (by rw [sz85]; rfl) ?_
      have hx := h2.el M[k] (List.getElem_mem hk')
      have hR2 := hR1.below' hb2
      rw [hstep] at hJ1
      generalize M[k] = x at *
      refine alB z85 ?_
      intro gv w3 hgv hV3 h3
      refine stB (cells := (rkF x).toArray) hV3 (by rw [sz85]; rfl) (by rfl) (by rw [← Array.all_toList]; exact List.all_eq_true.2 (rkF_one hx)) ?_
      intro w4 hV4 hT4
      have h4 : Below w2.heap.size w2 w4 := below_own h3 hT4 (by omega)
      have hs4 := h4.size
      have e1 : w4.cell? ⟨gv, 1, none⟩ = some x.v := hV4.cell 1
      (repeat with_reducible first | refine fd o1 (by decide) ?_ | refine ld one26 e1 ?_ | refine nck ?_ | refine cdT ?_ | refine cdF ?_ | refine gdY ?_ | refine gdFT ?_ | refine gdTF ?_ | refine gdU ?_ | refine gaY ?_ | refine gaFT ?_ | refine gaTF ?_ | refine pickT ?_ | refine pickF ?_ | refine bi_lss_t (by omega) ?_ | refine bi_lss_f (by omega) ?_ | refine bi_add64 (by omega) ?_ | refine bi_sub64 (by omega) ?_ | refine bi_eql_t (by omega) ?_ | refine bi_eql_f (by omega) ?_ | refine bi_neq_t (by omega) ?_ | refine bi_neq_f (by omega) ?_ | refine bi_gtr_t (by omega) ?_ | refine bi_gtr_f (by omega) ?_ | refine bi_leq_t (by omega) ?_ | refine bi_leq_f (by omega) ?_ | refine bi_geq_t (by omega) ?_ | refine bi_geq_f (by omega) ?_ | refine bi_xt0 ?_ | refine bi_xt1 ?_ | refine bi_xt2 ?_ | refine bi_xt3 ?_ | refine bi_T ?_ | refine bi_F ?_ | refine bi_not ?_ | refine bi_and ?_ | refine bi_or ?_ | refine bi_xor ?_ | refine bi_shr (by omega) (by decide) ?_ | refine bi_shl (by omega) (by decide) ?_ | refine bi_quo64 (by omega) ?_ | refine bi_rem64 (by omega) ?_ | refine bi_mul64 (by omega) ?_ | refine bi_neg ?_ | refine bi_un_xor32 ?_ | refine bi_add ?_ | refine bi_sub ?_ | refine bi_mul ?_ | refine bi_quo (by decide) ?_ | refine bi_rem (by decide) ?_)
      refine ldA agg23 (hR2.below' h4) (by rw [sz23]; rfl) ?_
      refine (minus22 x.v x.L r (by omega) w4 (hx.below h4).rd).mono ?_
      rintro u w5 ⟨out, hout, hou, h5⟩
      have heq := hout.eq
      subst heq
      have hV5 := hV4.below' h5
      (repeat with_reducible first | refine fd o1 (by decide) ?_ | refine nck ?_ | refine cdT ?_ | refine cdF ?_ | refine gdY ?_ | refine gdFT ?_ | refine gdTF ?_ | refine gdU ?_ | refine gaY ?_ | refine gaFT ?_ | refine gaTF ?_ | refine pickT ?_ | refine pickF ?_ | refine bi_lss_t (by omega) ?_ | refine bi_lss_f (by omega) ?_ | refine bi_add64 (by omega) ?_ | refine bi_sub64 (by omega) ?_ | refine bi_eql_t (by omega) ?_ | refine bi_eql_f (by omega) ?_ | refine bi_neq_t (by omega) ?_ | refine bi_neq_f (by omega) ?_ | refine bi_gtr_t (by omega) ?_ | refine bi_gtr_f (by omega) ?_ | refine bi_leq_t (by omega) ?_ | refine bi_leq_f (by omega) ?_ | refine bi_geq_t (by omega) ?_ | refine bi_geq_f (by omega) ?_ | refine bi_xt0 ?_ | refine bi_xt1 ?_ | refine bi_xt2 ?_ | refine bi_xt3 ?_ | refine bi_T ?_ | refine bi_F ?_ | refine bi_not ?_ | refine bi_and ?_ | refine bi_or ?_ | refine bi_xor ?_ | refine bi_shr (by omega) (by decide) ?_ | refine bi_shl (by omega) (by decide) ?_ | refine bi_quo64 (by omega) ?_ | refine bi_rem64 (by omega) ?_ | refine bi_mul64 (by omega) ?_ | refine bi_neg ?_ | refine bi_un_xor32 ?_ | refine bi_add ?_ | refine bi_sub ?_ | refine bi_mul ?_ | refine bi_quo (by decide) ?_ | refine bi_rem (by decide) ?_)
      refine st sz26 (own_one hou.1) (by rw [hV5.cell 1]; rfl) (hV5.frozen 1) ?_
      have hT6 := Turns.setCell (F := fun k => k = gv) (p := ⟨gv, 1, none⟩) (Turns.refl _ w5) (.inl rfl) u
      have hV6 : Blk (w5.setCell ⟨gv, 1, none⟩ u) gv 85 (rkF ⟨x.id, u, mns x.L r, x.new⟩).toArray := hV5.set_ 1 u
      have hvl := hV4.lt
      have hou6 := ownsRow_turns hou.1 hT6 (fun q hq e => by have := hou.2 q hq; omega)
      have h26 : Below w2.heap.size w2 (w5.setCell ⟨gv, 1, none⟩ u) := below_own (below_then h4 h5) hT6 (by omega)
      generalize w5.setCell ⟨gv, 1, none⟩ u = w6 at *
      have hN6 := hN.kept h26
      have hb6 := below_then hb2 h26
      have hs6 := hb6.size
      have e6 : w6.cell? ⟨gv, 1, none⟩ = some u := hV6.cell 1
      (repeat with_reducible first | refine fd o1 (by decide) ?_ | refine ld one26 e6 ?_ | refine nck ?_ | refine cdT ?_ | refine cdF ?_ | refine gdY ?_ | refine gdFT ?_ | refine gdTF ?_ | refine gdU ?_ | refine gaY ?_ | refine gaFT ?_ | refine gaTF ?_ | refine pickT ?_ | refine pickF ?_ | refine bi_lss_t (by omega) ?_ | refine bi_lss_f (by omega) ?_ | refine bi_add64 (by omega) ?_ | refine bi_sub64 (by omega) ?_ | refine bi_eql_t (by omega) ?_ | refine bi_eql_f (by omega) ?_ | refine bi_neq_t (by omega) ?_ | refine bi_neq_f (by omega) ?_ | refine bi_gtr_t (by omega) ?_ | refine bi_gtr_f (by omega) ?_ | refine bi_leq_t (by omega) ?_ | refine bi_leq_f (by omega) ?_ | refine bi_geq_t (by omega) ?_ | refine bi_geq_f (by omega) ?_ | refine bi_xt0 ?_ | refine bi_xt1 ?_ | refine bi_xt2 ?_ | refine bi_xt3 ?_ | refine bi_T ?_ | refine bi_F ?_ | refine bi_not ?_ | refine bi_and ?_ | refine bi_or ?_ | refine bi_xor ?_ | refine bi_shr (by omega) (by decide) ?_ | refine bi_shl (by omega) (by decide) ?_ | refine bi_quo64 (by omega) ?_ | refine bi_rem64 (by omega) ?_ | refine bi_mul64 (by omega) ?_ | refine bi_neg ?_ | refine bi_un_xor32 ?_ | refine bi_add ?_ | refine bi_sub ?_ | refine bi_mul ?_ | refine bi_quo (by decide) ?_ | refine bi_rem (by decide) ?_)
      obtain ⟨Au, cu, rfl⟩ := hou.slice
      refine ln und26 ?_
      refine bi_gtr_c (fun hq => ?_) (fun hq => ?_)
      · have hne : mns x.L r ≠ [] := fun e => by rw [e] at hq; simp at hq
        (repeat with_reducible first | refine nck ?_ | refine cdT ?_ | refine cdF ?_ | refine gdY ?_ | refine gdFT ?_ | refine gdTF ?_ | refine gdU ?_ | refine gaY ?_ | refine gaFT ?_ | refine gaTF ?_ | refine pickT ?_ | refine pickF ?_ | refine bi_lss_t (by omega) ?_ | refine bi_lss_f (by omega) ?_ | refine bi_add64 (by omega) ?_ | refine bi_sub64 (by omega) ?_ | refine bi_eql_t (by omega) ?_ | refine bi_eql_f (by omega) ?_ | refine bi_neq_t (by omega) ?_ | refine bi_neq_f (by omega) ?_ | refine bi_gtr_t (by omega) ?_ | refine bi_gtr_f (by omega) ?_ | refine bi_leq_t (by omega) ?_ | refine bi_leq_f (by omega) ?_ | refine bi_geq_t (by omega) ?_ | refine bi_geq_f (by omega) ?_ | refine bi_xt0 ?_ | refine bi_xt1 ?_ | refine bi_xt2 ?_ | refine bi_xt3 ?_ | refine bi_T ?_ | refine bi_F ?_ | refine bi_not ?_ | refine bi_and ?_ | refine bi_or ?_ | refine bi_xor ?_ | refine bi_shr (by omega) (by decide) ?_ | refine bi_shl (by omega) (by decide) ?_ | refine bi_quo64 (by omega) ?_ | refine bi_rem64 (by omega) ?_ | refine bi_mul64 (by omega) ?_ | refine bi_neg ?_ | refine bi_un_xor32 ?_ | refine bi_add ?_ | refine bi_sub ?_ | refine bi_mul ?_ | refine bi_quo (by decide) ?_ | refine bi_rem (by decide) ?_)
        refine ldA agg85 hV6 (by rw [sz85]; rfl) ?_
        have hown : OwnR 2 23 w6 (Value.slice Au (mns x.L r).length cu) (mns x.L r).length ((mns x.L r).flatMap rgF) := OwnR.of_own hou6
        refine apOne (us := rkF ⟨x.id, .slice Au (mns x.L r).length cu, mns x.L r, x.new⟩) und76 inf85 (by rfl) (by decide) hN6.row (rkF_len _) (one_of hown) (by omega) (by omega) (by kernel_rfl) ?_
        intro v7 w7 ho7 hbl7 hT7
        refine hJ1 _ _ ⟨_, Mo ++ [⟨x.id, .slice Au (mns x.L r).length cu, mns x.L r, x.new⟩], rfl, ⟨?_, hN.fr.one hs6 hbl7, fun y hy => ?_⟩, ?_, hb6.trans (hT7.fresh hN.fr hs6)⟩
        · rw [List.length_append, List.flatMap_append]
          simpa using ho7
        · rcases List.mem_append.1 hy with hy | hy
          · exact ⟨(hN6.el y hy).1.turns hT7 (hN6.apart (hN6.el y hy).1), (hN6.el y hy).2⟩
          · simp only [List.mem_cons, List.not_mem_nil, or_false] at hy
            subst hy
            exact ⟨hown.turns hT7 (hN6.apart (x := ⟨x.id, .slice Au (mns x.L r).length cu, mns x.L r, x.new⟩) hown), fun k hk => by have := hou.2 k hk; omega⟩
        · rw [List.map_append, if_pos hne]; rfl
      · have hne : mns x.L r = [] := List.eq_nil_of_length_eq_zero (by omega)
        (repeat with_reducible first | refine nck ?_ | refine cdT ?_ | refine cdF ?_ | refine gdY ?_ | refine gdFT ?_ | refine gdTF ?_ | refine gdU ?_ | refine gaY ?_ | refine gaFT ?_ | refine gaTF ?_ | refine pickT ?_ | refine pickF ?_ | refine bi_lss_t (by omega) ?_ | refine bi_lss_f (by omega) ?_ | refine bi_add64 (by omega) ?_ | refine bi_sub64 (by omega) ?_ | refine bi_eql_t (by omega) ?_ | refine bi_eql_f (by omega) ?_ | refine bi_neq_t (by omega) ?_ | refine bi_neq_f (by omega) ?_ | refine bi_gtr_t (by omega) ?_ | refine bi_gtr_f (by omega) ?_ | refine bi_leq_t (by omega) ?_ | refine bi_leq_f (by omega) ?_ | refine bi_geq_t (by omega) ?_ | refine bi_geq_f (by omega) ?_ | refine bi_xt0 ?_ | refine bi_xt1 ?_ | refine bi_xt2 ?_ | refine bi_xt3 ?_ | refine bi_T ?_ | refine bi_F ?_ | refine bi_not ?_ | refine bi_and ?_ | refine bi_or ?_ | refine bi_xor ?_ | refine bi_shr (by omega) (by decide) ?_ | refine bi_shl (by omega) (by decide) ?_ | refine bi_quo64 (by omega) ?_ | refine bi_rem64 (by omega) ?_ | refine bi_mul64 (by omega) ?_ | refine bi_neg ?_ | refine bi_un_xor32 ?_ | refine bi_add ?_ | refine bi_sub ?_ | refine bi_mul ?_ | refine bi_quo (by decide) ?_ | refine bi_rem (by decide) ?_)
        refine hJ1 _ _ ⟨_, Mo, rfl, hN6, ?_, hb6⟩
        rw [if_neg (fun e => e hne), List.append_nil]
    · obtain ⟨ov', Mo', rfl, q1, q2, q3⟩ := hI
      dsimp only [List.headD_cons, List.tail_cons]
      (repeat with_reducible first | refine nck ?_ | refine cdT ?_ | refine cdF ?_ | refine gdY ?_ | refine gdFT ?_ | refine gdTF ?_ | refine gdU ?_ | refine gaY ?_ | refine gaFT ?_ | refine gaTF ?_ | refine pickT ?_ | refine pickF ?_ | refine bi_lss_t (by omega) ?_ | refine bi_lss_f (by omega) ?_ | refine bi_add64 (by omega) ?_ | refine bi_sub64 (by omega) ?_ | refine bi_eql_t (by omega) ?_ | refine bi_eql_f (by omega) ?_ | refine bi_neq_t (by omega) ?_ | refine bi_neq_f (by omega) ?_ | refine bi_gtr_t (by omega) ?_ | refine bi_gtr_f (by omega) ?_ | refine bi_leq_t (by omega) ?_ | refine bi_leq_f (by omega) ?_ | refine bi_geq_t (by omega) ?_ | refine bi_geq_f (by omega) ?_ | refine bi_xt0 ?_ | refine bi_xt1 ?_ | refine bi_xt2 ?_ | refine bi_xt3 ?_ | refine bi_T ?_ | refine bi_F ?_ | refine bi_not ?_ | refine bi_and ?_ | refine bi_or ?_ | refine bi_xor ?_ | refine bi_shr (by omega) (by decide) ?_ | refine bi_shl (by omega) (by decide) ?_ | refine bi_quo64 (by omega) ?_ | refine bi_rem64 (by omega) ?_ | refine bi_mul64 (by omega) ?_ | refine bi_neg ?_ | refine bi_un_xor32 ?_ | refine bi_add ?_ | refine bi_sub ?_ | refine bi_mul ?_ | refine bi_quo (by decide) ?_ | refine bi_rem (by decide) ?_)
      exact hJ _ _ _ ⟨k + 1, Mo', by omega, by simp, q1, q2, q3⟩ (by simp [intOf]; omega)
  · have : k = M.length := by omega
    subst this
    rw [List.take_length] at hMo
    (repeat with_reducible first | refine fd f2 (by decide) ?_ | refine nck ?_ | refine cdT ?_ | refine cdF ?_ | refine gdY ?_ | refine gdFT ?_ | refine gdTF ?_ | refine gdU ?_ | refine gaY ?_ | refine gaFT ?_ | refine gaTF ?_ | refine pickT ?_ | refine pickF ?_ | refine bi_lss_t (by omega) ?_ | refine bi_lss_f (by omega) ?_ | refine bi_add64 (by omega) ?_ | refine bi_sub64 (by omega) ?_ | refine bi_eql_t (by omega) ?_ | refine bi_eql_f (by omega) ?_ | refine bi_neq_t (by omega) ?_ | refine bi_neq_f (by omega) ?_ | refine bi_gtr_t (by omega) ?_ | refine bi_gtr_f (by omega) ?_ | refine bi_leq_t (by omega) ?_ | refine bi_leq_f (by omega) ?_ | refine bi_geq_t (by omega) ?_ | refine bi_geq_f (by omega) ?_ | refine bi_xt0 ?_ | refine bi_xt1 ?_ | refine bi_xt2 ?_ | refine bi_xt3 ?_ | refine bi_T ?_ | refine bi_F ?_ | refine bi_not ?_ | refine bi_and ?_ | refine bi_or ?_ | refine bi_xor ?_ | refine bi_shr (by omega) (by decide) ?_ | refine bi_shl (by omega) (by decide) ?_ | refine bi_quo64 (by omega) ?_ | refine bi_rem64 (by omega) ?_ | refine bi_mul64 (by omega) ?_ | refine bi_neg ?_ | refine bi_un_xor32 ?_ | refine bi_add ?_ | refine bi_sub ?_ | refine bi_mul ?_ | refine bi_quo (by decide) ?_ | refine bi_rem (by decide) ?_)
    refine st sz76 (own_one hN.row) (by rw [h2.blk.cell 2]; rfl) (h2.blk.frozen 2) ?_
    have hgl := h.blk.lt
    obtain ⟨c', hc1, hc2, hc3⟩ := hN.re (hu := hu) (c := c)
    have hT := Turns.setCell (F := fun k => c k = hu) (p := ⟨g, 2, none⟩) (Turns.of_below (below_then hb1 hb2)) (.inl h.hue) ov
    have hnd := k3_nodup hp
    have hidsM : Mo.map (·.id) = (Mo.map k3).map (·.1) := by rw [List.map_map]; rfl
    have hfst : ((M.map k3).map (loseF r)).map (·.1) = M.map (·.id) := by rw [List.map_map, List.map_map]; rfl
    have hsub : (Mo.map (·.id)).Sublist (M.map (·.id)) := by
      rw [hidsM, hMo, ← hfst]
      exact List.Sublist.map _ List.filter_sublist
    refine ⟨c', fun k hk => hc1 k (by omega), ⟨ov, now, Mo, RfAt.rowSet (vL := .slice A M.length cL) h.hh ((hc1 g (by omega)).trans h.hue) h2.blk hN.row (fun k hk => ⟨hc2 k hk, fun e => by have := hN.fr k hk; omega⟩) hc3, List.pairwise_map.1 ((List.pairwise_map.2 hp).sublist hsub), ?_, by omega, hn0, hn1, fun x hx => ?_⟩, hT⟩
    · funext j
      rw [abs_getK, hMo]
      unfold loseV
      have e := abs_getK le now j M
      have hkj := hok j
      rw [e] at hkj ⊢
      have hnd' : (((M.map k3).map (loseF r)).map (·.1)).Nodup := by rw [hfst]; rw [List.map_map] at hnd; exact hnd
      have hg : getK j ((M.map k3).map (loseF r)) = (getK j (M.map k3)).map fun p => (mns p.1 r, p.2) := getK_map (fun p : List Rg × Int => (mns p.1 r, p.2)) j (M.map k3)
      rw [getK_filter_val _ j hnd', hg]
      cases hgk : getK j (M.map k3) with
      | none => rfl
      | some p =>
        rw [hgk] at hkj
        obtain ⟨_, _, _, _, hle1, _⟩ := hkj _ _ rfl
        simp only [Option.map_some, Option.bind_some, sweepF]
        by_cases hq : mns p.1 r = []
        · rw [if_neg (show ¬ fullQ (j, (mns p.1 r, p.2)) = true by simp [fullQ, hq]), if_pos (.inr hq)]; rfl
        · rw [if_pos (show fullQ (j, (mns p.1 r, p.2)) = true by simp [fullQ, hq]), if_neg (fun e => e.elim (fun e => by omega) hq)]; rfl
    · have hm : k3 x ∈ ((M.map k3).map (loseF r)).filter fullQ := by rw [← hMo]; exact List.mem_map.2 ⟨x, hx, rfl⟩
      obtain ⟨y, hy, he⟩ := List.mem_map.1 (List.mem_filter.1 hm).1
      obtain ⟨z, hz, rfl⟩ := List.mem_map.1 hy
      have : x.new = z.new := by
        have := congrArg (fun p : Int × (List Rg × Int) => p.2.2) he
        exact this.symm
      rw [this]
      exact hnew z hz
end Go.Proofs.Ytcihbjempijhpaa.E
/- The reference's table of locks: Take. -/
namespace Go.Proofs.Ytcihbjempijhpaa.E
open Go Go.RowKit
set_option linter.unusedSimpArgs false
set_option linter.unusedVariables false

theorem pair_ins {M : List Rk} {i : Nat} {y : Rk} (hp : M.Pairwise fun x y => x.id < y.id) (hi : i ≤ M.length) (h1 : ∀ x ∈ M.take i, x.id < y.id) (h2 : ∀ x ∈ M.drop i, y.id < x.id) : (M.take i ++ y :: M.drop i).Pairwise fun x y => x.id < y.id := by
  refine List.pairwise_append.2 ⟨hp.sublist (List.take_sublist _ _), List.pairwise_cons.2 ⟨h2, hp.sublist (List.drop_sublist _ _)⟩, fun a ha b hb => ?_⟩
  rcases List.mem_cons.1 hb with rfl | hb
  · exact h1 a ha
  · have := h1 a ha
    have := h2 b hb
    omega
theorem find_ins_ne {M : List Rk} {i : Nat} {y : Rk} {j : Int} (h : y.id ≠ j) : findM (M.take i ++ y :: M.drop i) j = findM M j := by
  conv => rhs; rw [← List.take_append_drop i M]
  unfold findM
  rw [List.find?_append, List.find?_append, List.find?_cons, decide_eq_false h]
theorem built85 (id now : Int) (u : Value) (L : List Rg) (h : ∃ A n c, u = .slice A n c) : Try.prog.built 85 (#[(0, Value.int .i64 id), (1, u), (2, Value.int .i64 now)] : Array (Nat × Value)).toList = some (rkF ⟨id, u, L, now⟩).toArray := by
  obtain ⟨A, n, c, rfl⟩ := h
  kernel_rfl
theorem refTake56 {hu : Nat} {c : Nat → Nat} {w : World} {g n : Nat} {le : Int} {V : LkV} (id : Int) (r : Rg) (h : RfS hu c w g le n V) (hok : LkOk 400 le V) (hn : n ≤ 100000) :
    CallP Try.prog 56 #[.pointer (some ⟨g, 0, none⟩), .int .i64 id, rgV r] (fun u w' => u = .int .i64 (takeE id r) ∧ LeftR hu c w g le (n + 1) (takeV le V id r) w') w := by
  refine ⟨S56.calls _ _ _ _ _ ?_⟩
  unfold S56
  refine bxB ?_
  intro gr w1 hgr hR1 hb1
  have hs1 := hb1.size
  have bad : ∀ w', Below w.heap.size w w' → (id < 1 ∨ emptyR r) → (Value.int .i64 1 = .int .i64 (takeE id r) ∧ LeftR hu c w g le (n + 1) (takeV le V id r) w') := fun w' hb e => by
    rw [takeE, takeV, if_pos e, if_pos e]
    exact ⟨rfl, c, fun _ _ => rfl, (h.below hb).mono (by omega), Turns.of_below hb⟩
  refine bi_lss_c (fun hi => ?_) (fun hi => ?_)
  · (repeat with_reducible first | refine nck ?_ | refine cdT ?_ | refine cdF ?_ | refine gdY ?_ | refine gdFT ?_ | refine gdTF ?_ | refine gdU ?_ | refine gaY ?_ | refine gaFT ?_ | refine gaTF ?_ | refine pickT ?_ | refine pickF ?_ | refine bi_lss_t (by omega) ?_ | refine bi_lss_f (by omega) ?_ | refine bi_add64 (by omega) ?_ | refine bi_sub64 (by omega) ?_ | refine bi_eql_t (by omega) ?_ | refine bi_eql_f (by omega) ?_ | refine bi_neq_t (by omega) ?_ | refine bi_neq_f (by omega) ?_ | refine bi_gtr_t (by omega) ?_ | refine bi_gtr_f (by omega) ?_ | refine bi_leq_t (by omega) ?_ | refine bi_leq_f (by omega) ?_ | refine bi_geq_t (by omega) ?_ | refine bi_geq_f (by omega) ?_ | refine bi_xt0 ?_ | refine bi_xt1 ?_ | refine bi_xt2 ?_ | refine bi_xt3 ?_ | refine bi_T ?_ | refine bi_F ?_ | refine bi_not ?_ | refine bi_and ?_ | refine bi_or ?_ | refine bi_xor ?_ | refine bi_shr (by omega) (by decide) ?_ | refine bi_shl (by omega) (by decide) ?_ | refine bi_quo64 (by omega) ?_ | refine bi_rem64 (by omega) ?_ | refine bi_mul64 (by omega) ?_ | refine bi_neg ?_ | refine bi_un_xor32 ?_ | refine bi_add ?_ | refine bi_sub ?_ | refine bi_mul ?_ | refine bi_quo (by decide) ?_ | refine bi_rem (by decide) ?_)
    exact bad w1 hb1 (.inl hi)
  (repeat with_reducible first | refine nck ?_ | refine cdT ?_ | refine cdF ?_ | refine gdY ?_ | refine gdFT ?_ | refine gdTF ?_ | refine gdU ?_ | refine gaY ?_ | refine gaFT ?_ | refine gaTF ?_ | refine pickT ?_ | refine pickF ?_ | refine bi_lss_t (by omega) ?_ | refine bi_lss_f (by omega) ?_ | refine bi_add64 (by omega) ?_ | refine bi_sub64 (by omega) ?_ | refine bi_eql_t (by omega) ?_ | refine bi_eql_f (by omega) ?_ | refine bi_neq_t (by omega) ?_ | refine bi_neq_f (by omega) ?_ | refine bi_gtr_t (by omega) ?_ | refine bi_gtr_f (by omega) ?_ | refine bi_leq_t (by omega) ?_ | refine bi_leq_f (by omega) ?_ | refine bi_geq_t (by omega) ?_ | refine bi_geq_f (by omega) ?_ | refine bi_xt0 ?_ | refine bi_xt1 ?_ | refine bi_xt2 ?_ | refine bi_xt3 ?_ | refine bi_T ?_ | refine bi_F ?_ | refine bi_not ?_ | refine bi_and ?_ | refine bi_or ?_ | refine bi_xor ?_ | refine bi_shr (by omega) (by decide) ?_ | refine bi_shl (by omega) (by decide) ?_ | refine bi_quo64 (by omega) ?_ | refine bi_rem64 (by omega) ?_ | refine bi_mul64 (by omega) ?_ | refine bi_neg ?_ | refine bi_un_xor32 ?_ | refine bi_add ?_ | refine bi_sub ?_ | refine bi_mul ?_ | refine bi_quo (by decide) ?_ | refine bi_rem (by decide) ?_)
  refine ldA agg23 hR1 (by rw [sz23]; rfl) ?_
  (repeat with_reducible first | refine nck ?_ | refine cdT ?_ | refine cdF ?_ | refine gdY ?_ | refine gdFT ?_ | refine gdTF ?_ | refine gdU ?_ | refine gaY ?_ | refine gaFT ?_ | refine gaTF ?_ | refine pickT ?_ | refine pickF ?_ | refine bi_lss_t (by omega) ?_ | refine bi_lss_f (by omega) ?_ | refine bi_add64 (by omega) ?_ | refine bi_sub64 (by omega) ?_ | refine bi_eql_t (by omega) ?_ | refine bi_eql_f (by omega) ?_ | refine bi_neq_t (by omega) ?_ | refine bi_neq_f (by omega) ?_ | refine bi_gtr_t (by omega) ?_ | refine bi_gtr_f (by omega) ?_ | refine bi_leq_t (by omega) ?_ | refine bi_leq_f (by omega) ?_ | refine bi_geq_t (by omega) ?_ | refine bi_geq_f (by omega) ?_ | refine bi_xt0 ?_ | refine bi_xt1 ?_ | refine bi_xt2 ?_ | refine bi_xt3 ?_ | refine bi_T ?_ | refine bi_F ?_ | refine bi_not ?_ | refine bi_and ?_ | refine bi_or ?_ | refine bi_xor ?_ | refine bi_shr (by omega) (by decide) ?_ | refine bi_shl (by omega) (by decide) ?_ | refine bi_quo64 (by omega) ?_ | refine bi_rem64 (by omega) ?_ | refine bi_mul64 (by omega) ?_ | refine bi_neg ?_ | refine bi_un_xor32 ?_ | refine bi_add ?_ | refine bi_sub ?_ | refine bi_mul ?_ | refine bi_quo (by decide) ?_ | refine bi_rem (by decide) ?_)
  refine (empty15 r w1).mono ?_
  rintro _ w2 ⟨rfl, h2⟩
  have hb2 := below_then hb1 h2
  by_cases he : emptyR r
  · rw [decide_eq_true he]
    (repeat with_reducible first | refine nck ?_ | refine cdT ?_ | refine cdF ?_ | refine gdY ?_ | refine gdFT ?_ | refine gdTF ?_ | refine gdU ?_ | refine gaY ?_ | refine gaFT ?_ | refine gaTF ?_ | refine pickT ?_ | refine pickF ?_ | refine bi_lss_t (by omega) ?_ | refine bi_lss_f (by omega) ?_ | refine bi_add64 (by omega) ?_ | refine bi_sub64 (by omega) ?_ | refine bi_eql_t (by omega) ?_ | refine bi_eql_f (by omega) ?_ | refine bi_neq_t (by omega) ?_ | refine bi_neq_f (by omega) ?_ | refine bi_gtr_t (by omega) ?_ | refine bi_gtr_f (by omega) ?_ | refine bi_leq_t (by omega) ?_ | refine bi_leq_f (by omega) ?_ | refine bi_geq_t (by omega) ?_ | refine bi_geq_f (by omega) ?_ | refine bi_xt0 ?_ | refine bi_xt1 ?_ | refine bi_xt2 ?_ | refine bi_xt3 ?_ | refine bi_T ?_ | refine bi_F ?_ | refine bi_not ?_ | refine bi_and ?_ | refine bi_or ?_ | refine bi_xor ?_ | refine bi_shr (by omega) (by decide) ?_ | refine bi_shl (by omega) (by decide) ?_ | refine bi_quo64 (by omega) ?_ | refine bi_rem64 (by omega) ?_ | refine bi_mul64 (by omega) ?_ | refine bi_neg ?_ | refine bi_un_xor32 ?_ | refine bi_add ?_ | refine bi_sub ?_ | refine bi_mul ?_ | refine bi_quo (by decide) ?_ | refine bi_rem (by decide) ?_)
    exact bad w2 hb2 (.inr he)
  rw [decide_eq_false he]
  have hnb : ¬ (id < 1 ∨ emptyR r) := fun e => e.elim hi he
  rw [takeE, takeV, if_neg hnb, if_neg hnb]
  have hR2 := hR1.below' h2
  have hs2 := hb2.size
  clear bad
  obtain ⟨vL, now, M, h0, hp, rfl, hl, hn0, hn1, hnew⟩ := h
  have h3 := h0.below hb2
  (repeat with_reducible first | refine nck ?_ | refine cdT ?_ | refine cdF ?_ | refine gdY ?_ | refine gdFT ?_ | refine gdTF ?_ | refine gdU ?_ | refine gaY ?_ | refine gaFT ?_ | refine gaTF ?_ | refine pickT ?_ | refine pickF ?_ | refine bi_lss_t (by omega) ?_ | refine bi_lss_f (by omega) ?_ | refine bi_add64 (by omega) ?_ | refine bi_sub64 (by omega) ?_ | refine bi_eql_t (by omega) ?_ | refine bi_eql_f (by omega) ?_ | refine bi_neq_t (by omega) ?_ | refine bi_neq_f (by omega) ?_ | refine bi_gtr_t (by omega) ?_ | refine bi_gtr_f (by omega) ?_ | refine bi_leq_t (by omega) ?_ | refine bi_leq_f (by omega) ?_ | refine bi_geq_t (by omega) ?_ | refine bi_geq_f (by omega) ?_ | refine bi_xt0 ?_ | refine bi_xt1 ?_ | refine bi_xt2 ?_ | refine bi_xt3 ?_ | refine bi_T ?_ | refine bi_F ?_ | refine bi_not ?_ | refine bi_and ?_ | refine bi_or ?_ | refine bi_xor ?_ | refine bi_shr (by omega) (by decide) ?_ | refine bi_shl (by omega) (by decide) ?_ | refine bi_quo64 (by omega) ?_ | refine bi_rem64 (by omega) ?_ | refine bi_mul64 (by omega) ?_ | refine bi_neg ?_ | refine bi_un_xor32 ?_ | refine bi_add ?_ | refine bi_sub ?_ | refine bi_mul ?_ | refine bi_quo (by decide) ?_ | refine bi_rem (by decide) ?_)
  refine (refAt64 id h3 (by omega)).mono ?_
  rintro r1 _ ⟨hr1, rfl⟩
  refine JoinP.cut (fun xs w' => ∃ (c' : Nat → Nat) (vL' : Value) (M1 : List Rk) (i : Nat) (hi : i < M1.length), xs = [.int .i64 i] ∧ (∀ k, k < w.heap.size → c' k = c k) ∧ RfAt hu c' w' g vL' le now M1 ∧ (M1.Pairwise fun x y => x.id < y.id) ∧ M1[i].id = id ∧ M1[i].L = ((absM le now M id).map (·.1)).getD [] ∧ (∀ j, j ≠ id → absM le now M1 j = absM le now M j) ∧ M1.length ≤ n + 1 ∧ (∀ x ∈ M1, 0 ≤ x.new ∧ x.new ≤ now) ∧ Blk w' gr 23 (rgA r) ∧ w.heap.size ≤ w'.heap.size ∧ Turns (fun k => c k = hu) w w') (fun J hJ => ?_) (fun xs w4 hI => ?_)
  · rcases hr1 with ⟨i, hi, rfl, hid⟩ | ⟨rfl, hall⟩
    · (repeat with_reducible first | refine nck ?_ | refine cdT ?_ | refine cdF ?_ | refine gdY ?_ | refine gdFT ?_ | refine gdTF ?_ | refine gdU ?_ | refine gaY ?_ | refine gaFT ?_ | refine gaTF ?_ | refine pickT ?_ | refine pickF ?_ | refine bi_lss_t (by omega) ?_ | refine bi_lss_f (by omega) ?_ | refine bi_add64 (by omega) ?_ | refine bi_sub64 (by omega) ?_ | refine bi_eql_t (by omega) ?_ | refine bi_eql_f (by omega) ?_ | refine bi_neq_t (by omega) ?_ | refine bi_neq_f (by omega) ?_ | refine bi_gtr_t (by omega) ?_ | refine bi_gtr_f (by omega) ?_ | refine bi_leq_t (by omega) ?_ | refine bi_leq_f (by omega) ?_ | refine bi_geq_t (by omega) ?_ | refine bi_geq_f (by omega) ?_ | refine bi_xt0 ?_ | refine bi_xt1 ?_ | refine bi_xt2 ?_ | refine bi_xt3 ?_ | refine bi_T ?_ | refine bi_F ?_ | refine bi_not ?_ | refine bi_and ?_ | refine bi_or ?_ | refine bi_xor ?_ | refine bi_shr (by omega) (by decide) ?_ | refine bi_shl (by omega) (by decide) ?_ | refine bi_quo64 (by omega) ?_ | refine bi_rem64 (by omega) ?_ | refine bi_mul64 (by omega) ?_ | refine bi_neg ?_ | refine bi_un_xor32 ?_ | refine bi_add ?_ | refine bi_sub ?_ | refine bi_mul ?_ | refine bi_quo (by decide) ?_ | refine bi_rem (by decide) ?_)
      refine hJ _ _ ⟨c, vL, M, i, hi, rfl, fun _ _ => rfl, h3, hp, hid, ?_, fun _ _ => rfl, by omega, hnew, hR2, hs2, Turns.of_below hb2⟩
      unfold absM
      rw [← hid, find_at hp hi]; rfl
    · (repeat with_reducible first | refine nck ?_ | refine cdT ?_ | refine cdF ?_ | refine gdY ?_ | refine gdFT ?_ | refine gdTF ?_ | refine gdU ?_ | refine gaY ?_ | refine gaFT ?_ | refine gaTF ?_ | refine pickT ?_ | refine pickF ?_ | refine bi_lss_t (by omega) ?_ | refine bi_lss_f (by omega) ?_ | refine bi_add64 (by omega) ?_ | refine bi_sub64 (by omega) ?_ | refine bi_eql_t (by omega) ?_ | refine bi_eql_f (by omega) ?_ | refine bi_neq_t (by omega) ?_ | refine bi_neq_f (by omega) ?_ | refine bi_gtr_t (by omega) ?_ | refine bi_gtr_f (by omega) ?_ | refine bi_leq_t (by omega) ?_ | refine bi_leq_f (by omega) ?_ | refine bi_geq_t (by omega) ?_ | refine bi_geq_f (by omega) ?_ | refine bi_xt0 ?_ | refine bi_xt1 ?_ | refine bi_xt2 ?_ | refine bi_xt3 ?_ | refine bi_T ?_ | refine bi_F ?_ | refine bi_not ?_ | refine bi_and ?_ | refine bi_or ?_ | refine bi_xor ?_ | refine bi_shr (by omega) (by decide) ?_ | refine bi_shl (by omega) (by decide) ?_ | refine bi_quo64 (by omega) ?_ | refine bi_rem64 (by omega) ?_ | refine bi_mul64 (by omega) ?_ | refine bi_neg ?_ | refine bi_un_xor32 ?_ | refine bi_add ?_ | refine bi_sub ?_ | refine bi_mul ?_ | refine bi_quo (by decide) ?_ | refine bi_rem (by decide) ?_)
      have hfn : findM M id = none := find_none hall
      obtain ⟨A, cL, rfl, hc, hm⟩ := h3.rowL.slice
      have c2 : w2.cell? ⟨g, 2, none⟩ = some (.slice A M.length cL) := h3.blk.cell 2
      refine LoopP.inv1 (fun iv w' => ∃ i : Nat, i ≤ M.length ∧ iv = .int .i64 i ∧ (∀ x ∈ M.take i, x.id < id) ∧ w2 = w') (fun iv _ => M.length - (intOf iv).toNat) ⟨0, by omega, rfl, by simp, rfl⟩ ?_
      rintro _ _ ⟨i, hi, rfl, hlow, rfl⟩ J1 hJ1
      dsimp only [List.headD_cons, List.tail_cons]
      (repeat with_reducible first | refine fd f2 (by decide) ?_ | refine ld one76 c2 ?_ | refine nck ?_ | refine cdT ?_ | refine cdF ?_ | refine gdY ?_ | refine gdFT ?_ | refine gdTF ?_ | refine gdU ?_ | refine gaY ?_ | refine gaFT ?_ | refine gaTF ?_ | refine pickT ?_ | refine pickF ?_ | refine bi_lss_t (by omega) ?_ | refine bi_lss_f (by omega) ?_ | refine bi_add64 (by omega) ?_ | refine bi_sub64 (by omega) ?_ | refine bi_eql_t (by omega) ?_ | refine bi_eql_f (by omega) ?_ | refine bi_neq_t (by omega) ?_ | refine bi_neq_f (by omega) ?_ | refine bi_gtr_t (by omega) ?_ | refine bi_gtr_f (by omega) ?_ | refine bi_leq_t (by omega) ?_ | refine bi_leq_f (by omega) ?_ | refine bi_geq_t (by omega) ?_ | refine bi_geq_f (by omega) ?_ | refine bi_xt0 ?_ | refine bi_xt1 ?_ | refine bi_xt2 ?_ | refine bi_xt3 ?_ | refine bi_T ?_ | refine bi_F ?_ | refine bi_not ?_ | refine bi_and ?_ | refine bi_or ?_ | refine bi_xor ?_ | refine bi_shr (by omega) (by decide) ?_ | refine bi_shl (by omega) (by decide) ?_ | refine bi_quo64 (by omega) ?_ | refine bi_rem64 (by omega) ?_ | refine bi_mul64 (by omega) ?_ | refine bi_neg ?_ | refine bi_un_xor32 ?_ | refine bi_add ?_ | refine bi_sub ?_ | refine bi_mul ?_ | refine bi_quo (by decide) ?_ | refine bi_rem (by decide) ?_)
      refine ln und76 ?_
      refine bi_lss_c (fun hlt => ?a) (fun hlt => ?b)
      case' a =>
        have hi' : i < M.length := by omega
        obtain ⟨gL, cL', he, d0, _⟩ := h3.at i hi'
        cases he
        (repeat with_reducible first | refine fd f2 (by decide) ?_ | refine ld one76 c2 ?_ | refine ixG und76 sz85 i hi' ?_ | refine fdG o0 (by decide) ?_ | refine ld one3' d0 ?_ | refine nck ?_ | refine cdT ?_ | refine cdF ?_ | refine gdY ?_ | refine gdFT ?_ | refine gdTF ?_ | refine gdU ?_ | refine gaY ?_ | refine gaFT ?_ | refine gaTF ?_ | refine pickT ?_ | refine pickF ?_ | refine bi_lss_t (by omega) ?_ | refine bi_lss_f (by omega) ?_ | refine bi_add64 (by omega) ?_ | refine bi_sub64 (by omega) ?_ | refine bi_eql_t (by omega) ?_ | refine bi_eql_f (by omega) ?_ | refine bi_neq_t (by omega) ?_ | refine bi_neq_f (by omega) ?_ | refine bi_gtr_t (by omega) ?_ | refine bi_gtr_f (by omega) ?_ | refine bi_leq_t (by omega) ?_ | refine bi_leq_f (by omega) ?_ | refine bi_geq_t (by omega) ?_ | refine bi_geq_f (by omega) ?_ | refine bi_xt0 ?_ | refine bi_xt1 ?_ | refine bi_xt2 ?_ | refine bi_xt3 ?_ | refine bi_T ?_ | refine bi_F ?_ | refine bi_not ?_ | refine bi_and ?_ | refine bi_or ?_ | refine bi_xor ?_ | refine bi_shr (by omega) (by decide) ?_ | refine bi_shl (by omega) (by decide) ?_ | refine bi_quo64 (by omega) ?_ | refine bi_rem64 (by omega) ?_ | refine bi_mul64 (by omega) ?_ | refine bi_neg ?_ | refine bi_un_xor32 ?_ | refine bi_add ?_ | refine bi_sub ?_ | refine bi_mul ?_ | refine bi_quo (by decide) ?_ | refine bi_rem (by decide) ?_)
        refine bi_lss_c (fun h4 => ?a1) (fun h4 => ?a2)
      case a1 =>
        (repeat with_reducible first | refine nck ?_ | refine cdT ?_ | refine cdF ?_ | refine gdY ?_ | refine gdFT ?_ | refine gdTF ?_ | refine gdU ?_ | refine gaY ?_ | refine gaFT ?_ | refine gaTF ?_ | refine pickT ?_ | refine pickF ?_ | refine bi_lss_t (by omega) ?_ | refine bi_lss_f (by omega) ?_ | refine bi_add64 (by omega) ?_ | refine bi_sub64 (by omega) ?_ | refine bi_eql_t (by omega) ?_ | refine bi_eql_f (by omega) ?_ | refine bi_neq_t (by omega) ?_ | refine bi_neq_f (by omega) ?_ | refine bi_gtr_t (by omega) ?_ | refine bi_gtr_f (by omega) ?_ | refine bi_leq_t (by omega) ?_ | refine bi_leq_f (by omega) ?_ | refine bi_geq_t (by omega) ?_ | refine bi_geq_f (by omega) ?_ | refine bi_xt0 ?_ | refine bi_xt1 ?_ | refine bi_xt2 ?_ | refine bi_xt3 ?_ | refine bi_T ?_ | refine bi_F ?_ | refine bi_not ?_ | refine bi_and ?_ | refine bi_or ?_ | refine bi_xor ?_ | refine bi_shr (by omega) (by decide) ?_ | refine bi_shl (by omega) (by decide) ?_ | refine bi_quo64 (by omega) ?_ | refine bi_rem64 (by omega) ?_ | refine bi_mul64 (by omega) ?_ | refine bi_neg ?_ | refine bi_un_xor32 ?_ | refine bi_add ?_ | refine bi_sub ?_ | refine bi_mul ?_ | refine bi_quo (by decide) ?_ | refine bi_rem (by decide) ?_)
        refine hJ1 _ _ ⟨i + 1, by omega, by simp, fun x hx => ?_, rfl⟩ (by simp [intOf]; omega)
        rcases mem_take_succ hi' hx with hx | rfl
        · exact hlow x hx
        · exact h4
      case' a2 =>
        have hhigh : ∀ x ∈ M.drop i, id < x.id := fun x hx => by
          obtain ⟨k, hk, rfl⟩ := List.getElem_of_mem hx
          rw [List.length_drop] at hk
          rw [List.getElem_drop]
          have hne := hall M[i] (List.getElem_mem hi')
          rcases Nat.eq_zero_or_pos k with hk0 | hk0
          · subst hk0
            simp only [Nat.add_zero]
            omega
          · have := List.pairwise_iff_getElem.1 hp i (i + k) hi' (by omega) (by omega)
            omega
      case' b =>
        have hhigh : ∀ x ∈ M.drop i, id < x.id := fun x hx => by
          rw [List.drop_eq_nil_of_le (by omega)] at hx
          simp at hx
      all_goals
        (repeat with_reducible first | refine fd f2 (by decide) ?_ | refine ld one76 c2 ?_ | refine nck ?_ | refine cdT ?_ | refine cdF ?_ | refine gdY ?_ | refine gdFT ?_ | refine gdTF ?_ | refine gdU ?_ | refine gaY ?_ | refine gaFT ?_ | refine gaTF ?_ | refine pickT ?_ | refine pickF ?_ | refine bi_lss_t (by omega) ?_ | refine bi_lss_f (by omega) ?_ | refine bi_add64 (by omega) ?_ | refine bi_sub64 (by omega) ?_ | refine bi_eql_t (by omega) ?_ | refine bi_eql_f (by omega) ?_ | refine bi_neq_t (by omega) ?_ | refine bi_neq_f (by omega) ?_ | refine bi_gtr_t (by omega) ?_ | refine bi_gtr_f (by omega) ?_ | refine bi_leq_t (by omega) ?_ | refine bi_leq_f (by omega) ?_ | refine bi_geq_t (by omega) ?_ | refine bi_geq_f (by omega) ?_ | refine bi_xt0 ?_ | refine bi_xt1 ?_ | refine bi_xt2 ?_ | refine bi_xt3 ?_ | refine bi_T ?_ | refine bi_F ?_ | refine bi_not ?_ | refine bi_and ?_ | refine bi_or ?_ | refine bi_xor ?_ | refine bi_shr (by omega) (by decide) ?_ | refine bi_shl (by omega) (by decide) ?_ | refine bi_quo64 (by omega) ?_ | refine bi_rem64 (by omega) ?_ | refine bi_mul64 (by omega) ?_ | refine bi_neg ?_ | refine bi_un_xor32 ?_ | refine bi_add ?_ | refine bi_sub ?_ | refine bi_mul ?_ | refine bi_quo (by decide) ?_ | refine bi_rem (by decide) ?_)
        refine ofPR (pr_cut und76 sz85 .no (.at _ _) .no (Nat.zero_le _) (fun h => by cases h) (show i ≤ cL by omega) (Nat.le_refl _) (.inl rfl)) ?_
        have ht := rRow.cutTo h3.rd i hi
        refine apRm w2.heap.size und76 inf85 (by rfl) (by decide) (xs := []) (n := 0) (v := .slice none 0 0) ⟨rfl, .inl ⟨rfl, rfl⟩⟩ (Fresh.nil _) (Nat.le_refl _) rkF_len (fun x hx => rkF_one (h3.el x (List.mem_of_mem_take hx))) ht (by rw [List.length_take]; omega) (by rw [List.length_take]; omega) ?_
        intro v5 w5 ho5 hf5 hb5
        refine bd (cells := (rkF ⟨id, .slice none 0 0, [], 0⟩).toArray) (by kernel_rfl) ?_
        refine apOne (us := rkF ⟨id, .slice none 0 0, [], 0⟩) und76 inf85 (by rfl) (by decide) ho5 (rkF_len _) (one_of (w := w5) (x := ⟨id, .slice none 0 0, [], 0⟩) ⟨rfl, .inl ⟨rfl, rfl⟩⟩) (by rw [List.length_take]; omega) (by rw [List.length_take]; omega) (by kernel_rfl) ?_
        intro v6 w6 ho6 hbl6 hT6
        have hs5 := hb5.size
        have hf6 := hf5.one hs5 hbl6
        have hb6 := hb5.trans (hT6.fresh hf5 hs5)
        have h6 := h3.below hb6
        have hs6 := hb6.size
        have c6 : w6.cell? ⟨g, 2, none⟩ = some (.slice _ M.length cL) := h6.blk.cell 2
        (repeat with_reducible first | refine fd f2 (by decide) ?_ | refine ld one76 c6 ?_ | refine nck ?_ | refine cdT ?_ | refine cdF ?_ | refine gdY ?_ | refine gdFT ?_ | refine gdTF ?_ | refine gdU ?_ | refine gaY ?_ | refine gaFT ?_ | refine gaTF ?_ | refine pickT ?_ | refine pickF ?_ | refine bi_lss_t (by omega) ?_ | refine bi_lss_f (by omega) ?_ | refine bi_add64 (by omega) ?_ | refine bi_sub64 (by omega) ?_ | refine bi_eql_t (by omega) ?_ | refine bi_eql_f (by omega) ?_ | refine bi_neq_t (by omega) ?_ | refine bi_neq_f (by omega) ?_ | refine bi_gtr_t (by omega) ?_ | refine bi_gtr_f (by omega) ?_ | refine bi_leq_t (by omega) ?_ | refine bi_leq_f (by omega) ?_ | refine bi_geq_t (by omega) ?_ | refine bi_geq_f (by omega) ?_ | refine bi_xt0 ?_ | refine bi_xt1 ?_ | refine bi_xt2 ?_ | refine bi_xt3 ?_ | refine bi_T ?_ | refine bi_F ?_ | refine bi_not ?_ | refine bi_and ?_ | refine bi_or ?_ | refine bi_xor ?_ | refine bi_shr (by omega) (by decide) ?_ | refine bi_shl (by omega) (by decide) ?_ | refine bi_quo64 (by omega) ?_ | refine bi_rem64 (by omega) ?_ | refine bi_mul64 (by omega) ?_ | refine bi_neg ?_ | refine bi_un_xor32 ?_ | refine bi_add ?_ | refine bi_sub ?_ | refine bi_mul ?_ | refine bi_quo (by decide) ?_ | refine bi_rem (by decide) ?_)
        refine ofPR (pr_cut und76 sz85 (.at _ _) .no .no hi (fun _ => hi) hc (Nat.le_refl _) (.inl rfl)) ?_
        have hd := rRow.cutFrom h6.rd i hi
        refine apRm w2.heap.size und76 inf85 (by rfl) (by decide) ho6 hf6 hs6 rkF_len (fun x hx => rkF_one (h6.el x (List.mem_of_mem_drop hx))) hd (by rw [List.length_take, List.length_drop]; omega) (by rw [List.length_take, List.length_drop]; omega) ?_
        intro v7 w7 ho7 hf7 hb7
        have hb7' := hb6.trans hb7
        have h7 := h3.below hb7'
        have hs7 := hb7'.size
        (repeat with_reducible first | refine fd f2 (by decide) ?_ | refine nck ?_ | refine cdT ?_ | refine cdF ?_ | refine gdY ?_ | refine gdFT ?_ | refine gdTF ?_ | refine gdU ?_ | refine gaY ?_ | refine gaFT ?_ | refine gaTF ?_ | refine pickT ?_ | refine pickF ?_ | refine bi_lss_t (by omega) ?_ | refine bi_lss_f (by omega) ?_ | refine bi_add64 (by omega) ?_ | refine bi_sub64 (by omega) ?_ | refine bi_eql_t (by omega) ?_ | refine bi_eql_f (by omega) ?_ | refine bi_neq_t (by omega) ?_ | refine bi_neq_f (by omega) ?_ | refine bi_gtr_t (by omega) ?_ | refine bi_gtr_f (by omega) ?_ | refine bi_leq_t (by omega) ?_ | refine bi_leq_f (by omega) ?_ | refine bi_geq_t (by omega) ?_ | refine bi_geq_f (by omega) ?_ | refine bi_xt0 ?_ | refine bi_xt1 ?_ | refine bi_xt2 ?_ | refine bi_xt3 ?_ | refine bi_T ?_ | refine bi_F ?_ | refine bi_not ?_ | refine bi_and ?_ | refine bi_or ?_ | refine bi_xor ?_ | refine bi_shr (by omega) (by decide) ?_ | refine bi_shl (by omega) (by decide) ?_ | refine bi_quo64 (by omega) ?_ | refine bi_rem64 (by omega) ?_ | refine bi_mul64 (by omega) ?_ | refine bi_neg ?_ | refine bi_un_xor32 ?_ | refine bi_add ?_ | refine bi_sub ?_ | refine bi_mul ?_ | refine bi_quo (by decide) ?_ | refine bi_rem (by decide) ?_)
        refine st sz76 (own_one ho7) (by rw [h7.blk.cell 2]; rfl) (h7.blk.frozen 2) ?_
        have hgl := h3.blk.lt
        have hcc := col_lt c w2.heap.size hu
        have ho : w7.ownsRow 0 85 3 v7 (M.take i ++ ⟨id, .slice none 0 0, [], 0⟩ :: M.drop i).length ((M.take i ++ ⟨id, .slice none 0 0, [], 0⟩ :: M.drop i).flatMap rkF) := by
          have e1 : (M.take i ++ (⟨id, .slice none 0 0, [], 0⟩ : Rk) :: M.drop i).length = 0 + (M.take i).length + 1 + (M.drop i).length := by simp; omega
          have e2 : (M.take i ++ (⟨id, .slice none 0 0, [], 0⟩ : Rk) :: M.drop i).flatMap rkF = [] ++ (M.take i).flatMap rkF ++ rkF ⟨id, .slice none 0 0, [], 0⟩ ++ (M.drop i).flatMap rkF := by simp [List.flatMap_append, List.flatMap_cons]
          rw [e1, e2]
          exact ho7
        have hel : ∀ x ∈ M.take i ++ (⟨id, .slice none 0 0, [], 0⟩ : Rk) :: M.drop i, RkAt (col c w2.heap.size hu) w7 x := fun x hx => by
          rcases List.mem_append.1 hx with hx | hx
          · exact ((h3.re hcc).below hb7').el x (List.mem_of_mem_take hx)
          · rcases List.mem_cons.1 hx with rfl | hx
            · exact ⟨⟨rfl, .inl ⟨rfl, rfl⟩⟩, fun k hk => by cases hk⟩
            · exact ((h3.re hcc).below hb7').el x (List.mem_of_mem_drop hx)
        have hT := Turns.setCell (F := fun k => c k = hu) (p := ⟨g, 2, none⟩) (Turns.of_below (below_then hb2 hb7')) (.inl h3.hue) v7
        have hTg := Turns.setCell (F := fun k => k = g) (p := ⟨g, 2, none⟩) (Turns.refl _ w7) (.inl rfl) v7
        have hgne : gr ≠ g := blk_ne hR2 h3.blk (by decide)
        have hget : (M.take i ++ (⟨id, .slice none 0 0, [], 0⟩ : Rk) :: M.drop i)[i]'(by simp; omega) = ⟨id, .slice none 0 0, [], 0⟩ := by
          rw [List.getElem_append_right (by rw [List.length_take]; omega)]
          simp [List.length_take, Nat.min_eq_left hi]
        refine hJ _ _ ⟨col c w2.heap.size hu, v7, M.take i ++ ⟨id, .slice none 0 0, [], 0⟩ :: M.drop i, i, by simp; omega, rfl, fun k hk => hcc k (by omega),
          RfAt.rowSet h3.hh ((hcc g hgl).trans h3.hue) h7.blk ho (fun k hk => ⟨col_ge _ _ _ (hf7 k hk), fun e => by have := hf7 k hk; omega⟩) hel,
          pair_ins hp hi hlow hhigh, by rw [hget], ?_, fun j hj => ?_, by simp; omega, fun x hx => ?_, (hR2.below' hb7').turns hTg hgne, ?_, hT⟩
        · rw [hget]
          unfold absM
          rw [hfn]; rfl
        · unfold absM
          rw [find_ins_ne (fun e => hj e.symm)]
        · rcases List.mem_append.1 hx with hx | hx
          · exact hnew x (List.mem_of_mem_take hx)
          · rcases List.mem_cons.1 hx with rfl | hx
            · exact ⟨Int.le_refl _, hn0⟩
            · exact hnew x (List.mem_of_mem_drop hx)
        · exact hT.size
  · obtain ⟨c', vL', M1, i, hi1, rfl, hext, h4, hp1, hid, hL, habs, hlen1, hnew1, hR4, hsz, hT4⟩ := hI
    dsimp only [List.headD_cons, List.tail_cons]
    obtain ⟨gL, cL, rfl, _, d1, _⟩ := h4.at i hi1
    have c2 : w4.cell? ⟨g, 2, none⟩ = some (.slice (some ⟨gL, 0, none⟩) M1.length cL) := h4.blk.cell 2
    have hLlen : M1[i].L.length ≤ 400 := by
      rw [hL]
      cases hv : absM le now M id with
      | none => simp
      | some p =>
        obtain ⟨_, _, _, q, _⟩ := hok id p.1 p.2 hv
        exact q
    (repeat with_reducible first | refine fd f2 (by decide) ?_ | refine ld one76 c2 ?_ | refine ixG und76 sz85 i hi1 ?_ | refine fdG o1 (by decide) ?_ | refine ld one26 d1 ?_ | refine nck ?_ | refine cdT ?_ | refine cdF ?_ | refine gdY ?_ | refine gdFT ?_ | refine gdTF ?_ | refine gdU ?_ | refine gaY ?_ | refine gaFT ?_ | refine gaTF ?_ | refine pickT ?_ | refine pickF ?_ | refine bi_lss_t (by omega) ?_ | refine bi_lss_f (by omega) ?_ | refine bi_add64 (by omega) ?_ | refine bi_sub64 (by omega) ?_ | refine bi_eql_t (by omega) ?_ | refine bi_eql_f (by omega) ?_ | refine bi_neq_t (by omega) ?_ | refine bi_neq_f (by omega) ?_ | refine bi_gtr_t (by omega) ?_ | refine bi_gtr_f (by omega) ?_ | refine bi_leq_t (by omega) ?_ | refine bi_leq_f (by omega) ?_ | refine bi_geq_t (by omega) ?_ | refine bi_geq_f (by omega) ?_ | refine bi_xt0 ?_ | refine bi_xt1 ?_ | refine bi_xt2 ?_ | refine bi_xt3 ?_ | refine bi_T ?_ | refine bi_F ?_ | refine bi_not ?_ | refine bi_and ?_ | refine bi_or ?_ | refine bi_xor ?_ | refine bi_shr (by omega) (by decide) ?_ | refine bi_shl (by omega) (by decide) ?_ | refine bi_quo64 (by omega) ?_ | refine bi_rem64 (by omega) ?_ | refine bi_mul64 (by omega) ?_ | refine bi_neg ?_ | refine bi_un_xor32 ?_ | refine bi_add ?_ | refine bi_sub ?_ | refine bi_mul ?_ | refine bi_quo (by decide) ?_ | refine bi_rem (by decide) ?_)
    refine apRm w4.heap.size und26 inf23 (by rfl) (by decide) (OwnA.nil w4.heap.size w4).1 (Fresh.nil _) (Nat.le_refl _) rgF_len (fun x _ => rgF_one x) (h4.el _ (List.getElem_mem hi1)).rd (by simp; omega) (by simp; omega) ?_
    intro v5 w5 ho5 hf5 hb5
    have ho5' : w5.ownsRow 0 23 2 v5 M1[i].L.length (M1[i].L.flatMap rgF) := by simpa using ho5
    have hdr : Below w5.heap.size w5 w5.drew := (Below.refl _ _).drew
    have hs5 := hb5.size
    have hb6 : Below w4.heap.size w4 w5.drew := below_then hb5 hdr
    have ho6 := ownsRow_turns ho5' (Turns.of_below (F := fun _ => False) hdr) (fun _ _ h => h)
    have s2 : ∀ w', Below w4.heap.size w4 w' → w'.cell? ⟨g, 2, none⟩ = some (.slice (some ⟨gL, 0, none⟩) M1.length cL) := fun w' hw => (h4.below hw).blk.cell 2
    have s1 : ∀ w', Below w4.heap.size w4 w' → w'.cell? ⟨g, 1, none⟩ = some (.int .i64 now) := fun w' hw => (h4.below hw).blk.cell 1
    have sR : ∀ w', Below w4.heap.size w4 w' → Blk w' gr 23 (rgA r) := fun w' hw => hR4.below' hw
    refine draw (Below w4.heap.size w4) hb6 ?_
    generalize w5.drew = w6 at *
    have hs6 := hb6.size
    (repeat with_reducible first | refine yfd f2 (by decide) ?_ | refine yl1 one76 s2 ?_ | refine ynck ?_ | refine nck ?_ | refine cdT ?_ | refine cdF ?_ | refine gdY ?_ | refine gdFT ?_ | refine gdTF ?_ | refine gdU ?_ | refine gaY ?_ | refine gaFT ?_ | refine gaTF ?_ | refine pickT ?_ | refine pickF ?_ | refine yi_lss_t (by omega) ?_ | refine yi_lss_f (by omega) ?_ | refine yi_add64 (by omega) ?_ | refine yi_sub64 (by omega) ?_ | refine yi_eql_t (by omega) ?_ | refine yi_eql_f (by omega) ?_ | refine yi_neq_t (by omega) ?_ | refine yi_neq_f (by omega) ?_ | refine yi_gtr_t (by omega) ?_ | refine yi_gtr_f (by omega) ?_ | refine yi_leq_t (by omega) ?_ | refine yi_leq_f (by omega) ?_ | refine yi_geq_t (by omega) ?_ | refine yi_geq_f (by omega) ?_ | refine yi_xt0 ?_ | refine yi_xt1 ?_ | refine yi_xt2 ?_ | refine yi_xt3 ?_ | refine yi_T ?_ | refine yi_F ?_ | refine yi_not ?_ | refine yi_and ?_ | refine yi_or ?_ | refine yi_xor ?_ | refine yi_shr (by omega) (by decide) ?_ | refine yi_shl (by omega) (by decide) ?_ | refine yi_quo64 (by omega) ?_ | refine yi_rem64 (by omega) ?_ | refine yi_mul64 (by omega) ?_ | refine yi_neg ?_ | refine yi_un_xor32 ?_ | refine yi_add ?_ | refine yi_sub ?_ | refine yi_mul ?_ | refine yi_quo (by decide) ?_ | refine yi_rem (by decide) ?_)
    refine yldA agg23 sR (by rw [sz23]; rfl) ?_
    (repeat with_reducible first | refine yfd f1 (by decide) ?_ | refine yl1 one3' s1 ?_ | refine ynck ?_ | refine nck ?_ | refine cdT ?_ | refine cdF ?_ | refine gdY ?_ | refine gdFT ?_ | refine gdTF ?_ | refine gdU ?_ | refine gaY ?_ | refine gaFT ?_ | refine gaTF ?_ | refine pickT ?_ | refine pickF ?_ | refine yi_lss_t (by omega) ?_ | refine yi_lss_f (by omega) ?_ | refine yi_add64 (by omega) ?_ | refine yi_sub64 (by omega) ?_ | refine yi_eql_t (by omega) ?_ | refine yi_eql_f (by omega) ?_ | refine yi_neq_t (by omega) ?_ | refine yi_neq_f (by omega) ?_ | refine yi_gtr_t (by omega) ?_ | refine yi_gtr_f (by omega) ?_ | refine yi_leq_t (by omega) ?_ | refine yi_leq_f (by omega) ?_ | refine yi_geq_t (by omega) ?_ | refine yi_geq_f (by omega) ?_ | refine yi_xt0 ?_ | refine yi_xt1 ?_ | refine yi_xt2 ?_ | refine yi_xt3 ?_ | refine yi_T ?_ | refine yi_F ?_ | refine yi_not ?_ | refine yi_and ?_ | refine yi_or ?_ | refine yi_xor ?_ | refine yi_shr (by omega) (by decide) ?_ | refine yi_shl (by omega) (by decide) ?_ | refine yi_quo64 (by omega) ?_ | refine yi_rem64 (by omega) ?_ | refine yi_mul64 (by omega) ?_ | refine yi_neg ?_ | refine yi_un_xor32 ?_ | refine yi_add ?_ | refine yi_sub ?_ | refine yi_mul ?_ | refine yi_quo (by decide) ?_ | refine yi_rem (by decide) ?_)
    refine pushAct ho6 (by omega) r (fun w' hw => hb6.trans (hw.fresh hf5 hs6)) ?_
    intro v7 w7 ho7 hT7
    have hb7 := hb6.trans (hT7.fresh hf5 hs6)
    have hs7 := hb7.size
    refine act ?_
    refine (least21 v7 (M1[i].L ++ [r]) (by simp; omega) w7 ((OwnR.of_own ho7).rd rgF_len fun _ _ => rfl)).mono ?_
    rintro u w8 ⟨out, hout, hou, h8⟩
    have heq := hout.eq
    subst heq
    have hb8 := below_then hb7 h8
    refine ⟨_, hb8, fun _ h => h, ?_⟩
    refine act ?_
    refine bd (cells := (rkF ⟨id, u, lst (M1[i].L ++ [r]), now⟩).toArray) (built85 id now u _ (by obtain ⟨Au, cu, e⟩ := hou.slice; exact ⟨Au, _, cu, e⟩)) ?_
    refine ⟨_, hb8, fun _ h => h, ?_⟩
    refine yixG und76 sz85 i hi1 ?_
    have hown : OwnR 2 23 w8 u (lst (M1[i].L ++ [r])).length ((lst (M1[i].L ++ [r])).flatMap rgF) := OwnR.of_own hou.1
    have h8' := h4.below hb8
    refine stE h8'.rowL i hi1 (by rfl) sz85 (by rw [← Array.all_toList]; exact List.all_eq_true.2 (one_of (x := ⟨id, u, lst (M1[i].L ++ [r]), now⟩) hown)) ?_
    intro w9 ho9 hT9
    have hput := flatMap_put rkF 3 rkF_len ⟨id, u, lst (M1[i].L ++ [r]), now⟩ M1 i hi1
    rw [show ((rkF ⟨id, u, lst (M1[i].L ++ [r]), now⟩).toArray).toList = rkF ⟨id, u, lst (M1[i].L ++ [r]), now⟩ from rfl, hput] at ho9
    have hcgL : c' gL = hu := h4.hueL gL rfl
    have hgLlt : gL < w4.heap.size := h4.rowL.lt rfl
    have hgne : g ≠ gL := fun e => h4.vne gL rfl e.symm
    have hcc := col_lt c' w4.heap.size 999
    have hfu : ∀ k, u.ownBlock = some k → w4.heap.size ≤ k := fun k hk => by have := hou.2 k hk; omega
    refine ⟨rfl, col c' w4.heap.size 999, fun k hk => (hcc k (by omega)).trans (hext k hk), ⟨_, now, M1.set i ⟨id, u, lst (M1[i].L ++ [r]), now⟩, ⟨h4.hh, (hcc g h4.blk.lt).trans h4.hue, h8'.blk.turns hT9 hgne, by rw [List.length_set]; exact ho9, fun k hk => ?_, fun x hx => ?_⟩, pair_set hp1 hi1 hid.symm, ?_, by rw [List.length_set]; exact hlen1, hn0, by omega, fun x hx => ?_⟩, ?_⟩
    · cases hk
      exact (hcc gL hgLlt).trans hcgL
    · rcases List.mem_or_eq_of_mem_set hx with hx | rfl
      · refine (((h4.re hcc).below hb8).el x hx).turns hT9 fun k hk e => ?_
        rw [hk, hcc gL hgLlt, hcgL] at e
        have := h4.hh.2
        omega
      · exact ⟨hown.turns hT9 (fun k hk e => by have := hfu k hk; omega), fun k hk => col_ge _ _ _ (hfu k hk)⟩
    · rw [abs_set (y := ⟨id, u, lst (M1[i].L ++ [r]), now⟩) hp1 hi1 hid.symm]
      funext j
      dsimp only
      by_cases hj : j = id
      · rw [if_pos hj, if_pos hj, Int.sub_self, Int.sub_zero, hL]
      · rw [if_neg hj, if_neg hj, habs j hj]
    · rcases List.mem_or_eq_of_mem_set hx with hx | rfl
      · exact hnew1 x hx
      · exact ⟨hn0, Int.le_refl _⟩
    · refine (hT4.then_below hb8).trans (hT9.mono fun j _ e => ?_)
      rcases Nat.lt_or_ge j w.heap.size with hlt | hge
      · exact .inl (by show c j = hu; rw [← hext j hlt, e]; exact hcgL)
      · exact .inr hge
end Go.Proofs.Ytcihbjempijhpaa.E
