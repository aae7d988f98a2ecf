/- The table of what was answered: in memory; Look, client. -/
import Derived.Test.YtmnaggdhkggjhaaOnA
namespace Go.Proofs.Ytmnaggdhkggjhaa.E
open Go Go.RowKit
set_option linter.unusedSimpArgs false
set_option linter.unusedVariables false

theorem und58 : Try.prog.underlying 58 = some (.map 3 63) := by kernel_rfl
theorem und66 : Try.prog.underlying 66 = some (.map 3 27) := by kernel_rfl
theorem und63 : Try.prog.underlying 63 = some (.pointer 68) := by kernel_rfl
theorem und30 : Try.prog.underlying 30 = some (.pointer 60) := by kernel_rfl
theorem one58 : oneB Try.prog 58 = true := by kernel_rfl
theorem one66 : oneB Try.prog 66 = true := by kernel_rfl
theorem one63 : oneB Try.prog 63 = true := by kernel_rfl
theorem z63 : (Try.prog.info? 63).bind (·.zero) = some (.pointer none) := by kernel_rfl
theorem t0 : fofs Try.prog 60 0 = some (0, 1) := by kernel_rfl
theorem k0 : fofs Try.prog 68 0 = some (0, 1) := by kernel_rfl
theorem k1 : fofs Try.prog 68 1 = some (1, 1) := by kernel_rfl
/-- A reply that is kept. -/
structure Rp where
  R : Rep
  p : Value
  vs : List ValT
def Rp.val (m : Rp) : Value := .agg (m.R.cells m.p (.slice none 0 0))
structure Cli where
  gc : Nat
  br : Nat
  fl : Int
  l : List (Int × Rp)
structure RpAt (c : Nat → Nat) (x : Nat) (w : World) (m : Rp) : Prop where
  own : OwnS 3 36 w m.p m.vs.length (m.vs.flatMap valF)
  hue : InC c x m.p
  ok : ∀ v ∈ m.vs, valOk v
  len : m.vs.length ≤ 1000
structure CliAt (c : Nat → Nat) (x : Nat) (w : World) (C : Cli) : Prop where
  hue : c C.gc = x
  huem : c C.br = x
  blk : Blk w C.gc 68 #[.int .i64 C.fl, .map (some C.br)]
  map : MapI w C.br (C.l.map fun p => (p.1, p.2.val))
  el : ∀ p ∈ C.l, RpAt c x w p.2
/-- The colour of a client's objects. -/
def hueC (hu : Nat) (id : Int) : Nat := (id.toNat + 1) * 1000 + hu
/-- The blocks of a table's colours. -/
def Dh (hu : Nat) (c : Nat → Nat) : Nat → Prop := fun k => c k % 1000 = hu
theorem hueC_mod {hu : Nat} (h : hu < 1000) (id : Int) : hueC hu id % 1000 = hu := by unfold hueC; omega
theorem hueC_ne (hu : Nat) (id : Int) : hueC hu id ≠ hu := by unfold hueC; omega
theorem hueC_inj {hu : Nat} {a b : Int} (ha : 0 ≤ a) (hb : 0 ≤ b) (h : hueC hu a = hueC hu b) : a = b := by unfold hueC at h; omega
theorem Turns.stepH {hu : Nat} {c c1 : Nat → Nat} {w w1 w2 : World} (h : Turns (Dh hu c) w w1) (hc : ∀ k, k < w.heap.size → c1 k = c k) (k : Turns (Dh hu c1) w1 w2) : Turns (Dh hu c) w w2 :=
  h.trans (k.mono fun j _ hj => by
    rcases Nat.lt_or_ge j w.heap.size with hlt | hge
    · exact .inl (by rw [Dh, ← hc j hlt]; exact hj)
    · exact .inr hge)
structure TabAt (hu : Nat) (c : Nat → Nat) (w : World) (g bm : Nat) (T : List (Int × Cli)) : Prop where
  hh : 0 < hu ∧ hu < 1000
  hue : c g = hu
  huem : c bm = hu
  blk : Blk w g 60 #[.map (some bm)]
  map : MapI w bm (T.map fun p => (p.1, .pointer (some ⟨p.2.gc, 0, none⟩)))
  el : ∀ p ∈ T, 0 ≤ p.1 ∧ CliAt c (hueC hu p.1) w p.2
def TabC (hu : Nat) (c : Nat → Nat) (w : World) (g : Nat) (T : List (Int × Cli)) : Prop := ∃ bm, TabAt hu c w g bm T
theorem rVal_all : ∀ (w w' : World) (us : List Value) (x : ValT), rVal w us x → rVal w' us x := fun _ _ _ _ h => h
section
variable {hu : Nat} {c c' : Nat → Nat} {x : Nat} {w w' : World} {m : Rp} {C : Cli} {g bm : Nat} {T : List (Int × Cli)}
theorem RpAt.turns {F : Nat → Prop} (h : RpAt c x w m) (hT : Turns F w w') (hF : ∀ k, m.p.ownBlock = some k → ¬ F k) : RpAt c x w' m := ⟨h.own.turns hT hF, h.hue, h.ok, h.len⟩
theorem RpAt.vals (h : RpAt c x w m) : Vals w [m.p] m.vs := h.own.rd (fun _ => rfl) fun p hp => rVal_of (h.ok p hp)
theorem RpAt.one (h : RpAt c x w m) : m.p.oneCell' = true := by obtain ⟨A, e⟩ := h.own.slice; rw [e]; rfl
theorem RpAt.re (h : RpAt c x w m) (hc : ∀ k, k < w.heap.size → c' k = c k) : RpAt c' x w m := ⟨h.own, h.hue.re (fun b hb => h.own.lt hb) hc, h.ok, h.len⟩
theorem CliAt.turns {F : Nat → Prop} (h : CliAt c x w C) (hT : Turns F w w') (hF : ∀ k, F k → c k ≠ x) : CliAt c x w' C :=
  ⟨h.hue, h.huem, h.blk.turns hT (fun e => hF _ e h.hue), h.map.turns hT (fun e => hF _ e h.huem), fun p hp => (h.el p hp).turns hT (fun k hk e => hF k e ((h.el p hp).hue k hk))⟩
theorem CliAt.re (h : CliAt c x w C) (hc : ∀ k, k < w.heap.size → c' k = c k) : CliAt c' x w C :=
  ⟨(hc _ h.blk.lt).trans h.hue, (hc _ h.map.lt).trans h.huem, h.blk, h.map, fun p hp => (h.el p hp).re hc⟩
theorem CliAt.below (h : CliAt c x w C) (hb : Below w.heap.size w w') : CliAt c x w' C := h.turns (F := fun _ => False) (Turns.of_below hb) (fun _ h => h.elim)
theorem TabAt.turns {F : Nat → Prop} (h : TabAt hu c w g bm T) (hT : Turns F w w') (hF : ∀ k, F k → c k % 1000 ≠ hu) : TabAt hu c w' g bm T :=
  ⟨h.hh, h.hue, h.huem, h.blk.turns hT (fun e => by have := hF g e; rw [h.hue, Nat.mod_eq_of_lt h.hh.2] at this; exact this rfl), h.map.turns hT (fun e => by have := hF bm e; rw [h.huem, Nat.mod_eq_of_lt h.hh.2] at this; exact this rfl),
    fun p hp => ⟨(h.el p hp).1, (h.el p hp).2.turns hT (fun k hk e => hF k hk (by rw [e, hueC_mod h.hh.2]))⟩⟩
theorem TabAt.below (h : TabAt hu c w g bm T) (hb : Below w.heap.size w w') : TabAt hu c w' g bm T := h.turns (F := fun _ => False) (Turns.of_below hb) (fun _ h => h.elim)
theorem TabAt.re (h : TabAt hu c w g bm T) (hc : ∀ k, k < w.heap.size → c' k = c k) : TabAt hu c' w g bm T :=
  ⟨h.hh, (hc g h.blk.lt).trans h.hue, (hc bm h.map.lt).trans h.huem, h.blk, h.map, fun p hp => ⟨(h.el p hp).1, (h.el p hp).2.re hc⟩⟩
theorem TabC.turns {F : Nat → Prop} (h : TabC hu c w g T) (hT : Turns F w w') (hF : ∀ k, F k → c k % 1000 ≠ hu) : TabC hu c w' g T := by
  obtain ⟨b, h⟩ := h; exact ⟨b, h.turns hT hF⟩
theorem TabC.below (h : TabC hu c w g T) (hb : Below w.heap.size w w') : TabC hu c w' g T := by
  obtain ⟨b, h⟩ := h; exact ⟨b, h.below hb⟩
theorem TabC.re (h : TabC hu c w g T) (hc : ∀ k, k < w.heap.size → c' k = c k) : TabC hu c' w g T := by
  obtain ⟨b, h⟩ := h; exact ⟨b, h.re hc⟩
end
/-- What a look finds: the error; what is kept. -/
def badP (id n : Int) : Bool := !(decide (0 ≤ id ∧ id ≤ 1099511627776) && decide (1 ≤ n ∧ n ≤ 1099511627776))
def lookP (T : List (Int × Cli)) (id n : Int) : Int × Option Rp :=
  if badP id n then (1, none) else match getK id T with
    | none => (7, none)
    | some C => if n ≤ C.fl then (12, none) else match getK n C.l with
      | some m => (0, some m)
      | none => (7, none)
/-- A reply as it is told. -/
def toldR (o : Option Rp) : Rep := (o.map (·.R)).getD zeroRep
def toldV (o : Option Rp) : List ValT := (o.map (·.vs)).getD []
def LookPost (w : World) (o : Int × Option Rp) (r : Value) (w' : World) : Prop :=
  ∃ p', r = .tuple #[.agg ((toldR o.2).cells p' (.slice none 0 0)), .int .i64 o.1] ∧ OwnS 3 36 w' p' (toldV o.2).length ((toldV o.2).flatMap valF) ∧ Fresh w.heap.size p' ∧ Below w.heap.size w w'
theorem Look_tab {hu : Nat} (c : Nat → Nat) (w : World) (g : Nat) (T : List (Int × Cli)) (id n : Int) (h : TabC hu c w g T) :
    CallP Try.prog 12 #[.pointer (some ⟨g, 0, none⟩), .int .i64 id, .int .i64 n] (LookPost w (lookP T id n)) w := by
  obtain ⟨bm, h⟩ := h
  refine ⟨S12.calls _ _ _ _ _ ?_⟩
  unfold S12
  refine al z27 ?_
  have hR : Blk (w.alloc (.cells (Value.agg (zeroRep.cells (.slice none 0 0) (.slice none 0 0))).cells 27)) w.heap.size 27 (zeroRep.cells (.slice none 0 0) (.slice none 0 0)) := Blk.new w 27 _
  have ha := (Below.refl w.heap.size w).alloc (Nat.le_refl _) (.cells (Value.agg (zeroRep.cells (.slice none 0 0) (.slice none 0 0))).cells 27)
  generalize w.alloc (.cells (Value.agg (zeroRep.cells (.slice none 0 0) (.slice none 0 0))).cells 27) = w1 at *
  have h1 := h.below ha
  have hgl := hR.lt
  have tell : ∀ {w' : World} (e : Int), Below w.heap.size w w' →
      LookPost w (e, none) (.tuple #[.agg (zeroRep.cells (.slice none 0 0) (.slice none 0 0)), .int .i64 e]) (w'.setRow w.heap.size (zeroRep.cells (.slice none 0 0) (.slice none 0 0))) :=
    fun e hb => ⟨.slice none 0 0, rfl, OwnS.nil 3 36 _, Fresh.nil _, below_setRow hb (Nat.le_refl _) _⟩
  refine (within_spec id 0 w1).mono ?_
  rintro _ _ ⟨rfl, rfl⟩
  by_cases hid : 0 ≤ id ∧ id ≤ 1099511627776
  · rw [decide_eq_true hid]
    (repeat (first | (with_reducible refine nck ?_) | (with_reducible refine cdT ?_) | (with_reducible refine cdF ?_) | (with_reducible refine gdY ?_) | (with_reducible refine gdFT ?_) | (with_reducible refine gdTF ?_) | (with_reducible refine gdU ?_) | (with_reducible refine gaY ?_) | (with_reducible refine gaFT ?_) | (with_reducible refine gaTF ?_) | (with_reducible refine pickT ?_) | (with_reducible refine pickF ?_) | (with_reducible refine bi_lss_t (by omega) ?_) | (with_reducible refine bi_lss_f (by omega) ?_) | (with_reducible refine bi_add64 (by omega) ?_) | (with_reducible refine bi_sub64 (by omega) ?_) | (with_reducible refine bi_eql_t (by omega) ?_) | (with_reducible refine bi_eql_f (by omega) ?_) | (with_reducible refine bi_neq_t (by omega) ?_) | (with_reducible refine bi_neq_f (by omega) ?_) | (with_reducible refine bi_gtr_t (by omega) ?_) | (with_reducible refine bi_gtr_f (by omega) ?_) | (with_reducible refine bi_leq_t (by omega) ?_) | (with_reducible refine bi_leq_f (by omega) ?_) | (with_reducible refine bi_geq_t (by omega) ?_) | (with_reducible refine bi_geq_f (by omega) ?_) | (with_reducible refine bi_xt0 ?_) | (with_reducible refine bi_xt1 ?_) | (with_reducible refine bi_xt2 ?_) | (with_reducible refine bi_xt3 ?_) | (with_reducible refine bi_T ?_) | (with_reducible refine bi_F ?_) | (with_reducible refine bi_not ?_) | (with_reducible refine bi_and ?_) | (with_reducible refine bi_or ?_) | (with_reducible refine bi_xor ?_) | (with_reducible refine bi_shr (by omega) (by decide) ?_) | (with_reducible refine bi_shl (by omega) (by decide) ?_) | (with_reducible refine bi_quo64 (by omega) ?_) | (with_reducible refine bi_rem64 (by omega) ?_) | (with_reducible refine bi_mul64 (by omega) ?_) | (with_reducible refine bi_neg ?_) | (with_reducible refine bi_un_xor32 ?_) | (with_reducible refine bi_add ?_) | (with_reducible refine bi_sub ?_) | (with_reducible refine bi_mul ?_) | (with_reducible refine bi_quo (by decide) ?_) | (with_reducible refine bi_rem (by decide) ?_)))
    refine (within_spec n 1 w1).mono ?_
    rintro _ _ ⟨rfl, rfl⟩
    by_cases hn : 1 ≤ n ∧ n ≤ 1099511627776
    · have hbad : badP id n = false := by simp [badP, hid, hn]
      rw [decide_eq_true hn]
      (repeat (first | (with_reducible refine nck ?_) | (with_reducible refine cdT ?_) | (with_reducible refine cdF ?_) | (with_reducible refine gdY ?_) | (with_reducible refine gdFT ?_) | (with_reducible refine gdTF ?_) | (with_reducible refine gdU ?_) | (with_reducible refine gaY ?_) | (with_reducible refine gaFT ?_) | (with_reducible refine gaTF ?_) | (with_reducible refine pickT ?_) | (with_reducible refine pickF ?_) | (with_reducible refine bi_lss_t (by omega) ?_) | (with_reducible refine bi_lss_f (by omega) ?_) | (with_reducible refine bi_add64 (by omega) ?_) | (with_reducible refine bi_sub64 (by omega) ?_) | (with_reducible refine bi_eql_t (by omega) ?_) | (with_reducible refine bi_eql_f (by omega) ?_) | (with_reducible refine bi_neq_t (by omega) ?_) | (with_reducible refine bi_neq_f (by omega) ?_) | (with_reducible refine bi_gtr_t (by omega) ?_) | (with_reducible refine bi_gtr_f (by omega) ?_) | (with_reducible refine bi_leq_t (by omega) ?_) | (with_reducible refine bi_leq_f (by omega) ?_) | (with_reducible refine bi_geq_t (by omega) ?_) | (with_reducible refine bi_geq_f (by omega) ?_) | (with_reducible refine bi_xt0 ?_) | (with_reducible refine bi_xt1 ?_) | (with_reducible refine bi_xt2 ?_) | (with_reducible refine bi_xt3 ?_) | (with_reducible refine bi_T ?_) | (with_reducible refine bi_F ?_) | (with_reducible refine bi_not ?_) | (with_reducible refine bi_and ?_) | (with_reducible refine bi_or ?_) | (with_reducible refine bi_xor ?_) | (with_reducible refine bi_shr (by omega) (by decide) ?_) | (with_reducible refine bi_shl (by omega) (by decide) ?_) | (with_reducible refine bi_quo64 (by omega) ?_) | (with_reducible refine bi_rem64 (by omega) ?_) | (with_reducible refine bi_mul64 (by omega) ?_) | (with_reducible refine bi_neg ?_) | (with_reducible refine bi_un_xor32 ?_) | (with_reducible refine bi_add ?_) | (with_reducible refine bi_sub ?_) | (with_reducible refine bi_mul ?_) | (with_reducible refine bi_quo (by decide) ?_) | (with_reducible refine bi_rem (by decide) ?_)))
      refine JoinP.cut (fun vs w' => vs = [] ∧ lookP T id n = (7, none) ∧ Blk w' w.heap.size 27 (zeroRep.cells (.slice none 0 0) (.slice none 0 0)) ∧ Below w.heap.size w w') (fun J hJ => ?_) (fun vs w' hI => ?_)
      · have c0 : w1.cell? ⟨g, 0, none⟩ = some (.map (some bm)) := h1.blk.cell 0
        (repeat (first | (with_reducible refine fd t0 (by decide) ?_) | (with_reducible refine ld one58 c0 ?_) | (with_reducible refine nck ?_) | (with_reducible refine cdT ?_) | (with_reducible refine cdF ?_) | (with_reducible refine gdY ?_) | (with_reducible refine gdFT ?_) | (with_reducible refine gdTF ?_) | (with_reducible refine gdU ?_) | (with_reducible refine gaY ?_) | (with_reducible refine gaFT ?_) | (with_reducible refine gaTF ?_) | (with_reducible refine pickT ?_) | (with_reducible refine pickF ?_) | (with_reducible refine bi_lss_t (by omega) ?_) | (with_reducible refine bi_lss_f (by omega) ?_) | (with_reducible refine bi_add64 (by omega) ?_) | (with_reducible refine bi_sub64 (by omega) ?_) | (with_reducible refine bi_eql_t (by omega) ?_) | (with_reducible refine bi_eql_f (by omega) ?_) | (with_reducible refine bi_neq_t (by omega) ?_) | (with_reducible refine bi_neq_f (by omega) ?_) | (with_reducible refine bi_gtr_t (by omega) ?_) | (with_reducible refine bi_gtr_f (by omega) ?_) | (with_reducible refine bi_leq_t (by omega) ?_) | (with_reducible refine bi_leq_f (by omega) ?_) | (with_reducible refine bi_geq_t (by omega) ?_) | (with_reducible refine bi_geq_f (by omega) ?_) | (with_reducible refine bi_xt0 ?_) | (with_reducible refine bi_xt1 ?_) | (with_reducible refine bi_xt2 ?_) | (with_reducible refine bi_xt3 ?_) | (with_reducible refine bi_T ?_) | (with_reducible refine bi_F ?_) | (with_reducible refine bi_not ?_) | (with_reducible refine bi_and ?_) | (with_reducible refine bi_or ?_) | (with_reducible refine bi_xor ?_) | (with_reducible refine bi_shr (by omega) (by decide) ?_) | (with_reducible refine bi_shl (by omega) (by decide) ?_) | (with_reducible refine bi_quo64 (by omega) ?_) | (with_reducible refine bi_rem64 (by omega) ?_) | (with_reducible refine bi_mul64 (by omega) ?_) | (with_reducible refine bi_neg ?_) | (with_reducible refine bi_un_xor32 ?_) | (with_reducible refine bi_add ?_) | (with_reducible refine bi_sub ?_) | (with_reducible refine bi_mul ?_) | (with_reducible refine bi_quo (by decide) ?_) | (with_reducible refine bi_rem (by decide) ?_)))
        refine lkq und58 und3 z63 h1.map ?_
        rw [getK_map (fun C : Cli => Value.pointer (some ⟨C.gc, 0, none⟩))]
        cases hx : getK id T with
        | none =>
          simp only [Option.map_none, Option.getD_none]
          refine ofPR (pr_pnot und63) ?_
          simp only [Option.isSome_none]
          (repeat (first | (with_reducible refine nck ?_) | (with_reducible refine cdT ?_) | (with_reducible refine cdF ?_) | (with_reducible refine gdY ?_) | (with_reducible refine gdFT ?_) | (with_reducible refine gdTF ?_) | (with_reducible refine gdU ?_) | (with_reducible refine gaY ?_) | (with_reducible refine gaFT ?_) | (with_reducible refine gaTF ?_) | (with_reducible refine pickT ?_) | (with_reducible refine pickF ?_) | (with_reducible refine bi_lss_t (by omega) ?_) | (with_reducible refine bi_lss_f (by omega) ?_) | (with_reducible refine bi_add64 (by omega) ?_) | (with_reducible refine bi_sub64 (by omega) ?_) | (with_reducible refine bi_eql_t (by omega) ?_) | (with_reducible refine bi_eql_f (by omega) ?_) | (with_reducible refine bi_neq_t (by omega) ?_) | (with_reducible refine bi_neq_f (by omega) ?_) | (with_reducible refine bi_gtr_t (by omega) ?_) | (with_reducible refine bi_gtr_f (by omega) ?_) | (with_reducible refine bi_leq_t (by omega) ?_) | (with_reducible refine bi_leq_f (by omega) ?_) | (with_reducible refine bi_geq_t (by omega) ?_) | (with_reducible refine bi_geq_f (by omega) ?_) | (with_reducible refine bi_xt0 ?_) | (with_reducible refine bi_xt1 ?_) | (with_reducible refine bi_xt2 ?_) | (with_reducible refine bi_xt3 ?_) | (with_reducible refine bi_T ?_) | (with_reducible refine bi_F ?_) | (with_reducible refine bi_not ?_) | (with_reducible refine bi_and ?_) | (with_reducible refine bi_or ?_) | (with_reducible refine bi_xor ?_) | (with_reducible refine bi_shr (by omega) (by decide) ?_) | (with_reducible refine bi_shl (by omega) (by decide) ?_) | (with_reducible refine bi_quo64 (by omega) ?_) | (with_reducible refine bi_rem64 (by omega) ?_) | (with_reducible refine bi_mul64 (by omega) ?_) | (with_reducible refine bi_neg ?_) | (with_reducible refine bi_un_xor32 ?_) | (with_reducible refine bi_add ?_) | (with_reducible refine bi_sub ?_) | (with_reducible refine bi_mul ?_) | (with_reducible refine bi_quo (by decide) ?_) | (with_reducible refine bi_rem (by decide) ?_)))
          refine hJ _ _ ⟨rfl, ?_, hR, ha⟩
          rw [lookP, hbad]
          simp [hx]
        | some C =>
          simp only [Option.map_some, Option.getD_some]
          refine ofPR (pr_pnot und63) ?_
          have hC := (h1.el _ (getK_mem _ _ _ hx)).2
          have e0 : w1.cell? ⟨C.gc, 0, none⟩ = some (.int .i64 C.fl) := hC.blk.cell 0
          have e1 : w1.cell? ⟨C.gc, 1, none⟩ = some (.map (some C.br)) := hC.blk.cell 1
          simp only [Option.isSome_some]
          (repeat (first | (with_reducible refine fd k0 (by decide) ?_) | (with_reducible refine ld one3 e0 ?_) | (with_reducible refine nck ?_) | (with_reducible refine cdT ?_) | (with_reducible refine cdF ?_) | (with_reducible refine gdY ?_) | (with_reducible refine gdFT ?_) | (with_reducible refine gdTF ?_) | (with_reducible refine gdU ?_) | (with_reducible refine gaY ?_) | (with_reducible refine gaFT ?_) | (with_reducible refine gaTF ?_) | (with_reducible refine pickT ?_) | (with_reducible refine pickF ?_) | (with_reducible refine bi_lss_t (by omega) ?_) | (with_reducible refine bi_lss_f (by omega) ?_) | (with_reducible refine bi_add64 (by omega) ?_) | (with_reducible refine bi_sub64 (by omega) ?_) | (with_reducible refine bi_eql_t (by omega) ?_) | (with_reducible refine bi_eql_f (by omega) ?_) | (with_reducible refine bi_neq_t (by omega) ?_) | (with_reducible refine bi_neq_f (by omega) ?_) | (with_reducible refine bi_gtr_t (by omega) ?_) | (with_reducible refine bi_gtr_f (by omega) ?_) | (with_reducible refine bi_leq_t (by omega) ?_) | (with_reducible refine bi_leq_f (by omega) ?_) | (with_reducible refine bi_geq_t (by omega) ?_) | (with_reducible refine bi_geq_f (by omega) ?_) | (with_reducible refine bi_xt0 ?_) | (with_reducible refine bi_xt1 ?_) | (with_reducible refine bi_xt2 ?_) | (with_reducible refine bi_xt3 ?_) | (with_reducible refine bi_T ?_) | (with_reducible refine bi_F ?_) | (with_reducible refine bi_not ?_) | (with_reducible refine bi_and ?_) | (with_reducible refine bi_or ?_) | (with_reducible refine bi_xor ?_) | (with_reducible refine bi_shr (by omega) (by decide) ?_) | (with_reducible refine bi_shl (by omega) (by decide) ?_) | (with_reducible refine bi_quo64 (by omega) ?_) | (with_reducible refine bi_rem64 (by omega) ?_) | (with_reducible refine bi_mul64 (by omega) ?_) | (with_reducible refine bi_neg ?_) | (with_reducible refine bi_un_xor32 ?_) | (with_reducible refine bi_add ?_) | (with_reducible refine bi_sub ?_) | (with_reducible refine bi_mul ?_) | (with_reducible refine bi_quo (by decide) ?_) | (with_reducible refine bi_rem (by decide) ?_)))
          refine bi_leq_c (fun hfl => ?_) (fun hfl => ?_)
          · (repeat (first | (with_reducible refine nck ?_) | (with_reducible refine cdT ?_) | (with_reducible refine cdF ?_) | (with_reducible refine gdY ?_) | (with_reducible refine gdFT ?_) | (with_reducible refine gdTF ?_) | (with_reducible refine gdU ?_) | (with_reducible refine gaY ?_) | (with_reducible refine gaFT ?_) | (with_reducible refine gaTF ?_) | (with_reducible refine pickT ?_) | (with_reducible refine pickF ?_) | (with_reducible refine bi_lss_t (by omega) ?_) | (with_reducible refine bi_lss_f (by omega) ?_) | (with_reducible refine bi_add64 (by omega) ?_) | (with_reducible refine bi_sub64 (by omega) ?_) | (with_reducible refine bi_eql_t (by omega) ?_) | (with_reducible refine bi_eql_f (by omega) ?_) | (with_reducible refine bi_neq_t (by omega) ?_) | (with_reducible refine bi_neq_f (by omega) ?_) | (with_reducible refine bi_gtr_t (by omega) ?_) | (with_reducible refine bi_gtr_f (by omega) ?_) | (with_reducible refine bi_leq_t (by omega) ?_) | (with_reducible refine bi_leq_f (by omega) ?_) | (with_reducible refine bi_geq_t (by omega) ?_) | (with_reducible refine bi_geq_f (by omega) ?_) | (with_reducible refine bi_xt0 ?_) | (with_reducible refine bi_xt1 ?_) | (with_reducible refine bi_xt2 ?_) | (with_reducible refine bi_xt3 ?_) | (with_reducible refine bi_T ?_) | (with_reducible refine bi_F ?_) | (with_reducible refine bi_not ?_) | (with_reducible refine bi_and ?_) | (with_reducible refine bi_or ?_) | (with_reducible refine bi_xor ?_) | (with_reducible refine bi_shr (by omega) (by decide) ?_) | (with_reducible refine bi_shl (by omega) (by decide) ?_) | (with_reducible refine bi_quo64 (by omega) ?_) | (with_reducible refine bi_rem64 (by omega) ?_) | (with_reducible refine bi_mul64 (by omega) ?_) | (with_reducible refine bi_neg ?_) | (with_reducible refine bi_un_xor32 ?_) | (with_reducible refine bi_add ?_) | (with_reducible refine bi_sub ?_) | (with_reducible refine bi_mul ?_) | (with_reducible refine bi_quo (by decide) ?_) | (with_reducible refine bi_rem (by decide) ?_)))
            refine bd (cells := zeroRep.cells (.slice none 0 0) (.slice none 0 0)) (by kernel_rfl) ?_
            refine stA hR (by exact sz27) (by rfl) (cellsR_one _ _ _ rfl rfl) ?_
            refine retA agg27 (hR.row _) (by exact sz27) ?_
            have hlk : lookP T id n = (12, none) := by rw [lookP, hbad]; simp [hx, hfl]
            rw [hlk]
            exact tell 12 ha
          · (repeat (first | (with_reducible refine fd k1 (by decide) ?_) | (with_reducible refine ld one66 e1 ?_) | (with_reducible refine nck ?_) | (with_reducible refine cdT ?_) | (with_reducible refine cdF ?_) | (with_reducible refine gdY ?_) | (with_reducible refine gdFT ?_) | (with_reducible refine gdTF ?_) | (with_reducible refine gdU ?_) | (with_reducible refine gaY ?_) | (with_reducible refine gaFT ?_) | (with_reducible refine gaTF ?_) | (with_reducible refine pickT ?_) | (with_reducible refine pickF ?_) | (with_reducible refine bi_lss_t (by omega) ?_) | (with_reducible refine bi_lss_f (by omega) ?_) | (with_reducible refine bi_add64 (by omega) ?_) | (with_reducible refine bi_sub64 (by omega) ?_) | (with_reducible refine bi_eql_t (by omega) ?_) | (with_reducible refine bi_eql_f (by omega) ?_) | (with_reducible refine bi_neq_t (by omega) ?_) | (with_reducible refine bi_neq_f (by omega) ?_) | (with_reducible refine bi_gtr_t (by omega) ?_) | (with_reducible refine bi_gtr_f (by omega) ?_) | (with_reducible refine bi_leq_t (by omega) ?_) | (with_reducible refine bi_leq_f (by omega) ?_) | (with_reducible refine bi_geq_t (by omega) ?_) | (with_reducible refine bi_geq_f (by omega) ?_) | (with_reducible refine bi_xt0 ?_) | (with_reducible refine bi_xt1 ?_) | (with_reducible refine bi_xt2 ?_) | (with_reducible refine bi_xt3 ?_) | (with_reducible refine bi_T ?_) | (with_reducible refine bi_F ?_) | (with_reducible refine bi_not ?_) | (with_reducible refine bi_and ?_) | (with_reducible refine bi_or ?_) | (with_reducible refine bi_xor ?_) | (with_reducible refine bi_shr (by omega) (by decide) ?_) | (with_reducible refine bi_shl (by omega) (by decide) ?_) | (with_reducible refine bi_quo64 (by omega) ?_) | (with_reducible refine bi_rem64 (by omega) ?_) | (with_reducible refine bi_mul64 (by omega) ?_) | (with_reducible refine bi_neg ?_) | (with_reducible refine bi_un_xor32 ?_) | (with_reducible refine bi_add ?_) | (with_reducible refine bi_sub ?_) | (with_reducible refine bi_mul ?_) | (with_reducible refine bi_quo (by decide) ?_) | (with_reducible refine bi_rem (by decide) ?_)))
            refine lkp und66 und3 z27 hC.map ?_
            rw [getK_map Rp.val]
            cases hy : getK n C.l with
            | none =>
              simp only [Option.map_none, Option.getD_none, Option.isSome_none]
              (repeat (first | (with_reducible refine nck ?_) | (with_reducible refine cdT ?_) | (with_reducible refine cdF ?_) | (with_reducible refine gdY ?_) | (with_reducible refine gdFT ?_) | (with_reducible refine gdTF ?_) | (with_reducible refine gdU ?_) | (with_reducible refine gaY ?_) | (with_reducible refine gaFT ?_) | (with_reducible refine gaTF ?_) | (with_reducible refine pickT ?_) | (with_reducible refine pickF ?_) | (with_reducible refine bi_lss_t (by omega) ?_) | (with_reducible refine bi_lss_f (by omega) ?_) | (with_reducible refine bi_add64 (by omega) ?_) | (with_reducible refine bi_sub64 (by omega) ?_) | (with_reducible refine bi_eql_t (by omega) ?_) | (with_reducible refine bi_eql_f (by omega) ?_) | (with_reducible refine bi_neq_t (by omega) ?_) | (with_reducible refine bi_neq_f (by omega) ?_) | (with_reducible refine bi_gtr_t (by omega) ?_) | (with_reducible refine bi_gtr_f (by omega) ?_) | (with_reducible refine bi_leq_t (by omega) ?_) | (with_reducible refine bi_leq_f (by omega) ?_) | (with_reducible refine bi_geq_t (by omega) ?_) | (with_reducible refine bi_geq_f (by omega) ?_) | (with_reducible refine bi_xt0 ?_) | (with_reducible refine bi_xt1 ?_) | (with_reducible refine bi_xt2 ?_) | (with_reducible refine bi_xt3 ?_) | (with_reducible refine bi_T ?_) | (with_reducible refine bi_F ?_) | (with_reducible refine bi_not ?_) | (with_reducible refine bi_and ?_) | (with_reducible refine bi_or ?_) | (with_reducible refine bi_xor ?_) | (with_reducible refine bi_shr (by omega) (by decide) ?_) | (with_reducible refine bi_shl (by omega) (by decide) ?_) | (with_reducible refine bi_quo64 (by omega) ?_) | (with_reducible refine bi_rem64 (by omega) ?_) | (with_reducible refine bi_mul64 (by omega) ?_) | (with_reducible refine bi_neg ?_) | (with_reducible refine bi_un_xor32 ?_) | (with_reducible refine bi_add ?_) | (with_reducible refine bi_sub ?_) | (with_reducible refine bi_mul ?_) | (with_reducible refine bi_quo (by decide) ?_) | (with_reducible refine bi_rem (by decide) ?_)))
              refine newRep rfl rfl ?_
              intro w2 _ hb2
              (repeat (first | (with_reducible refine nck ?_) | (with_reducible refine cdT ?_) | (with_reducible refine cdF ?_) | (with_reducible refine gdY ?_) | (with_reducible refine gdFT ?_) | (with_reducible refine gdTF ?_) | (with_reducible refine gdU ?_) | (with_reducible refine gaY ?_) | (with_reducible refine gaFT ?_) | (with_reducible refine gaTF ?_) | (with_reducible refine pickT ?_) | (with_reducible refine pickF ?_) | (with_reducible refine bi_lss_t (by omega) ?_) | (with_reducible refine bi_lss_f (by omega) ?_) | (with_reducible refine bi_add64 (by omega) ?_) | (with_reducible refine bi_sub64 (by omega) ?_) | (with_reducible refine bi_eql_t (by omega) ?_) | (with_reducible refine bi_eql_f (by omega) ?_) | (with_reducible refine bi_neq_t (by omega) ?_) | (with_reducible refine bi_neq_f (by omega) ?_) | (with_reducible refine bi_gtr_t (by omega) ?_) | (with_reducible refine bi_gtr_f (by omega) ?_) | (with_reducible refine bi_leq_t (by omega) ?_) | (with_reducible refine bi_leq_f (by omega) ?_) | (with_reducible refine bi_geq_t (by omega) ?_) | (with_reducible refine bi_geq_f (by omega) ?_) | (with_reducible refine bi_xt0 ?_) | (with_reducible refine bi_xt1 ?_) | (with_reducible refine bi_xt2 ?_) | (with_reducible refine bi_xt3 ?_) | (with_reducible refine bi_T ?_) | (with_reducible refine bi_F ?_) | (with_reducible refine bi_not ?_) | (with_reducible refine bi_and ?_) | (with_reducible refine bi_or ?_) | (with_reducible refine bi_xor ?_) | (with_reducible refine bi_shr (by omega) (by decide) ?_) | (with_reducible refine bi_shl (by omega) (by decide) ?_) | (with_reducible refine bi_quo64 (by omega) ?_) | (with_reducible refine bi_rem64 (by omega) ?_) | (with_reducible refine bi_mul64 (by omega) ?_) | (with_reducible refine bi_neg ?_) | (with_reducible refine bi_un_xor32 ?_) | (with_reducible refine bi_add ?_) | (with_reducible refine bi_sub ?_) | (with_reducible refine bi_mul ?_) | (with_reducible refine bi_quo (by decide) ?_) | (with_reducible refine bi_rem (by decide) ?_)))
              refine hJ _ _ ⟨rfl, ?_, hR.below' hb2, below_then ha hb2⟩
              rw [lookP, hbad]
              simp [hx, hfl, hy]
            | some m =>
              have hm := hC.el _ (getK_mem _ _ _ hy)
              simp only [Option.map_some, Option.getD_some, Option.isSome_some]
              (repeat (first | (with_reducible refine nck ?_) | (with_reducible refine cdT ?_) | (with_reducible refine cdF ?_) | (with_reducible refine gdY ?_) | (with_reducible refine gdFT ?_) | (with_reducible refine gdTF ?_) | (with_reducible refine gdU ?_) | (with_reducible refine gaY ?_) | (with_reducible refine gaFT ?_) | (with_reducible refine gaTF ?_) | (with_reducible refine pickT ?_) | (with_reducible refine pickF ?_) | (with_reducible refine bi_lss_t (by omega) ?_) | (with_reducible refine bi_lss_f (by omega) ?_) | (with_reducible refine bi_add64 (by omega) ?_) | (with_reducible refine bi_sub64 (by omega) ?_) | (with_reducible refine bi_eql_t (by omega) ?_) | (with_reducible refine bi_eql_f (by omega) ?_) | (with_reducible refine bi_neq_t (by omega) ?_) | (with_reducible refine bi_neq_f (by omega) ?_) | (with_reducible refine bi_gtr_t (by omega) ?_) | (with_reducible refine bi_gtr_f (by omega) ?_) | (with_reducible refine bi_leq_t (by omega) ?_) | (with_reducible refine bi_leq_f (by omega) ?_) | (with_reducible refine bi_geq_t (by omega) ?_) | (with_reducible refine bi_geq_f (by omega) ?_) | (with_reducible refine bi_xt0 ?_) | (with_reducible refine bi_xt1 ?_) | (with_reducible refine bi_xt2 ?_) | (with_reducible refine bi_xt3 ?_) | (with_reducible refine bi_T ?_) | (with_reducible refine bi_F ?_) | (with_reducible refine bi_not ?_) | (with_reducible refine bi_and ?_) | (with_reducible refine bi_or ?_) | (with_reducible refine bi_xor ?_) | (with_reducible refine bi_shr (by omega) (by decide) ?_) | (with_reducible refine bi_shl (by omega) (by decide) ?_) | (with_reducible refine bi_quo64 (by omega) ?_) | (with_reducible refine bi_rem64 (by omega) ?_) | (with_reducible refine bi_mul64 (by omega) ?_) | (with_reducible refine bi_neg ?_) | (with_reducible refine bi_un_xor32 ?_) | (with_reducible refine bi_add ?_) | (with_reducible refine bi_sub ?_) | (with_reducible refine bi_mul ?_) | (with_reducible refine bi_quo (by decide) ?_) | (with_reducible refine bi_rem (by decide) ?_)))
              refine newRep hm.one rfl ?_
              intro w2 hM2 hb2
              have hb2' := below_then ha hb2
              (repeat (first | (with_reducible refine nck ?_) | (with_reducible refine cdT ?_) | (with_reducible refine cdF ?_) | (with_reducible refine gdY ?_) | (with_reducible refine gdFT ?_) | (with_reducible refine gdTF ?_) | (with_reducible refine gdU ?_) | (with_reducible refine gaY ?_) | (with_reducible refine gaFT ?_) | (with_reducible refine gaTF ?_) | (with_reducible refine pickT ?_) | (with_reducible refine pickF ?_) | (with_reducible refine bi_lss_t (by omega) ?_) | (with_reducible refine bi_lss_f (by omega) ?_) | (with_reducible refine bi_add64 (by omega) ?_) | (with_reducible refine bi_sub64 (by omega) ?_) | (with_reducible refine bi_eql_t (by omega) ?_) | (with_reducible refine bi_eql_f (by omega) ?_) | (with_reducible refine bi_neq_t (by omega) ?_) | (with_reducible refine bi_neq_f (by omega) ?_) | (with_reducible refine bi_gtr_t (by omega) ?_) | (with_reducible refine bi_gtr_f (by omega) ?_) | (with_reducible refine bi_leq_t (by omega) ?_) | (with_reducible refine bi_leq_f (by omega) ?_) | (with_reducible refine bi_geq_t (by omega) ?_) | (with_reducible refine bi_geq_f (by omega) ?_) | (with_reducible refine bi_xt0 ?_) | (with_reducible refine bi_xt1 ?_) | (with_reducible refine bi_xt2 ?_) | (with_reducible refine bi_xt3 ?_) | (with_reducible refine bi_T ?_) | (with_reducible refine bi_F ?_) | (with_reducible refine bi_not ?_) | (with_reducible refine bi_and ?_) | (with_reducible refine bi_or ?_) | (with_reducible refine bi_xor ?_) | (with_reducible refine bi_shr (by omega) (by decide) ?_) | (with_reducible refine bi_shl (by omega) (by decide) ?_) | (with_reducible refine bi_quo64 (by omega) ?_) | (with_reducible refine bi_rem64 (by omega) ?_) | (with_reducible refine bi_mul64 (by omega) ?_) | (with_reducible refine bi_neg ?_) | (with_reducible refine bi_un_xor32 ?_) | (with_reducible refine bi_add ?_) | (with_reducible refine bi_sub ?_) | (with_reducible refine bi_mul ?_) | (with_reducible refine bi_quo (by decide) ?_) | (with_reducible refine bi_rem (by decide) ?_)))
              refine ldA agg27 hM2 (by exact sz27) ?_
              refine (copied_spec m.R m.p _ m.vs w2 (keeps_Vals _ _ _ _ hb2 hm.vals) rfl (by have := hm.len; simp only at this; omega)).mono ?_
              rintro _ w3 ⟨p', rfl, hop, hfp, hb3⟩
              have hb3' := below_then hb2' hb3
              have hR3 := (hR.below' hb2).below' hb3
              have h1p : p'.oneCell' = true := by obtain ⟨A, e⟩ := hop.slice; rw [e]; rfl
              refine stA hR3 (by exact sz27) (by rfl) (cellsR_one _ _ _ h1p rfl) ?_
              have hT4 : Turns (fun k => k = w.heap.size) w3 (w3.setRow w.heap.size (m.R.cells p' (.slice none 0 0))) := Turns.setRow (F := fun k => k = w.heap.size) (Turns.refl _ w3) (.inl rfl) _
              refine retA agg27 (hR3.row _) (by exact sz27) ?_
              have hlk : lookP T id n = (0, some m) := by rw [lookP, hbad]; simp [hx, hfl, hy]
              rw [hlk]
              have hs2 := hb2'.size
              have hsl := hM2.lt
              exact ⟨p', rfl, hop.turns hT4 (fun k hk he => by have := hfp k hk; omega), fun k hk => by have := hfp k hk; omega, below_setRow hb3' (Nat.le_refl _) _⟩
      · obtain ⟨rfl, hlk, hB, hb⟩ := hI
        refine bd (cells := zeroRep.cells (.slice none 0 0) (.slice none 0 0)) (by kernel_rfl) ?_
        refine stA hB (by exact sz27) (by rfl) (cellsR_one _ _ _ rfl rfl) ?_
        refine retA agg27 (hB.row _) (by exact sz27) ?_
        rw [hlk]
        exact tell 7 hb
    · have hbad : badP id n = true := by simp [badP, hid, hn]
      rw [decide_eq_false hn]
      (repeat (first | (with_reducible refine nck ?_) | (with_reducible refine cdT ?_) | (with_reducible refine cdF ?_) | (with_reducible refine gdY ?_) | (with_reducible refine gdFT ?_) | (with_reducible refine gdTF ?_) | (with_reducible refine gdU ?_) | (with_reducible refine gaY ?_) | (with_reducible refine gaFT ?_) | (with_reducible refine gaTF ?_) | (with_reducible refine pickT ?_) | (with_reducible refine pickF ?_) | (with_reducible refine bi_lss_t (by omega) ?_) | (with_reducible refine bi_lss_f (by omega) ?_) | (with_reducible refine bi_add64 (by omega) ?_) | (with_reducible refine bi_sub64 (by omega) ?_) | (with_reducible refine bi_eql_t (by omega) ?_) | (with_reducible refine bi_eql_f (by omega) ?_) | (with_reducible refine bi_neq_t (by omega) ?_) | (with_reducible refine bi_neq_f (by omega) ?_) | (with_reducible refine bi_gtr_t (by omega) ?_) | (with_reducible refine bi_gtr_f (by omega) ?_) | (with_reducible refine bi_leq_t (by omega) ?_) | (with_reducible refine bi_leq_f (by omega) ?_) | (with_reducible refine bi_geq_t (by omega) ?_) | (with_reducible refine bi_geq_f (by omega) ?_) | (with_reducible refine bi_xt0 ?_) | (with_reducible refine bi_xt1 ?_) | (with_reducible refine bi_xt2 ?_) | (with_reducible refine bi_xt3 ?_) | (with_reducible refine bi_T ?_) | (with_reducible refine bi_F ?_) | (with_reducible refine bi_not ?_) | (with_reducible refine bi_and ?_) | (with_reducible refine bi_or ?_) | (with_reducible refine bi_xor ?_) | (with_reducible refine bi_shr (by omega) (by decide) ?_) | (with_reducible refine bi_shl (by omega) (by decide) ?_) | (with_reducible refine bi_quo64 (by omega) ?_) | (with_reducible refine bi_rem64 (by omega) ?_) | (with_reducible refine bi_mul64 (by omega) ?_) | (with_reducible refine bi_neg ?_) | (with_reducible refine bi_un_xor32 ?_) | (with_reducible refine bi_add ?_) | (with_reducible refine bi_sub ?_) | (with_reducible refine bi_mul ?_) | (with_reducible refine bi_quo (by decide) ?_) | (with_reducible refine bi_rem (by decide) ?_)))
      refine bd (cells := zeroRep.cells (.slice none 0 0) (.slice none 0 0)) (by kernel_rfl) ?_
      refine stA hR (by exact sz27) (by rfl) (cellsR_one _ _ _ rfl rfl) ?_
      refine retA agg27 (hR.row _) (by exact sz27) ?_
      rw [show lookP T id n = (1, none) from by rw [lookP, if_pos hbad]]
      exact tell 1 ha
  · have hbad : badP id n = true := by simp [badP, hid]
    rw [decide_eq_false hid]
    (repeat (first | (with_reducible refine nck ?_) | (with_reducible refine cdT ?_) | (with_reducible refine cdF ?_) | (with_reducible refine gdY ?_) | (with_reducible refine gdFT ?_) | (with_reducible refine gdTF ?_) | (with_reducible refine gdU ?_) | (with_reducible refine gaY ?_) | (with_reducible refine gaFT ?_) | (with_reducible refine gaTF ?_) | (with_reducible refine pickT ?_) | (with_reducible refine pickF ?_) | (with_reducible refine bi_lss_t (by omega) ?_) | (with_reducible refine bi_lss_f (by omega) ?_) | (with_reducible refine bi_add64 (by omega) ?_) | (with_reducible refine bi_sub64 (by omega) ?_) | (with_reducible refine bi_eql_t (by omega) ?_) | (with_reducible refine bi_eql_f (by omega) ?_) | (with_reducible refine bi_neq_t (by omega) ?_) | (with_reducible refine bi_neq_f (by omega) ?_) | (with_reducible refine bi_gtr_t (by omega) ?_) | (with_reducible refine bi_gtr_f (by omega) ?_) | (with_reducible refine bi_leq_t (by omega) ?_) | (with_reducible refine bi_leq_f (by omega) ?_) | (with_reducible refine bi_geq_t (by omega) ?_) | (with_reducible refine bi_geq_f (by omega) ?_) | (with_reducible refine bi_xt0 ?_) | (with_reducible refine bi_xt1 ?_) | (with_reducible refine bi_xt2 ?_) | (with_reducible refine bi_xt3 ?_) | (with_reducible refine bi_T ?_) | (with_reducible refine bi_F ?_) | (with_reducible refine bi_not ?_) | (with_reducible refine bi_and ?_) | (with_reducible refine bi_or ?_) | (with_reducible refine bi_xor ?_) | (with_reducible refine bi_shr (by omega) (by decide) ?_) | (with_reducible refine bi_shl (by omega) (by decide) ?_) | (with_reducible refine bi_quo64 (by omega) ?_) | (with_reducible refine bi_rem64 (by omega) ?_) | (with_reducible refine bi_mul64 (by omega) ?_) | (with_reducible refine bi_neg ?_) | (with_reducible refine bi_un_xor32 ?_) | (with_reducible refine bi_add ?_) | (with_reducible refine bi_sub ?_) | (with_reducible refine bi_mul ?_) | (with_reducible refine bi_quo (by decide) ?_) | (with_reducible refine bi_rem (by decide) ?_)))
    refine bd (cells := zeroRep.cells (.slice none 0 0) (.slice none 0 0)) (by kernel_rfl) ?_
    refine stA hR (by exact sz27) (by rfl) (cellsR_one _ _ _ rfl rfl) ?_
    refine retA agg27 (hR.row _) (by exact sz27) ?_
    rw [show lookP T id n = (1, none) from by rw [lookP, if_pos hbad]]
    exact tell 1 ha
end Go.Proofs.Ytmnaggdhkggjhaa.E
