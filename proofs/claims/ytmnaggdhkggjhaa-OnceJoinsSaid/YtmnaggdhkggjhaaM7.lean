import Derived.Test.YtmnaggdhkggjhaaM5
import Derived.Test.YtmnaggdhkggjhaaM3
/- The reference's table: in memory; Floor, Known, Look. -/
namespace Go.Proofs.Ytmnaggdhkggjhaa.E
open Go Go.RowKit
set_option linter.unusedSimpArgs false
set_option linter.unusedVariables false

theorem rowAt {s : Nat} {e : TypeId} {w : World} {v : Value} {α : Type} {f : α → List Value} {l : List α} (hf : ∀ x, (f x).length = s) (h : OwnR s e w v l.length (l.flatMap f)) (i : Nat) (hi : i < l.length) (hs : 0 < s) :
    ∃ g c, v = .slice (some ⟨g, 0, none⟩) l.length c ∧ ∀ j u, (f l[i])[j]? = some u → w.cell? ⟨g, i * s + j, none⟩ = some u := by
  obtain ⟨A, c, rfl, _, _⟩ := h.slice
  have hle : i * s + s ≤ l.length * s := by
    have := Nat.mul_le_mul_right s (show i + 1 ≤ l.length from hi)
    rw [Nat.succ_mul] at this; omega
  obtain ⟨g, _, rfl, _, _, _⟩ := h.at (i * s) (by omega)
  refine ⟨g, c, rfl, fun j u hu => ?_⟩
  have hj : j < s := by have := (List.getElem?_eq_some_iff.1 hu).1; rw [hf] at this; exact this
  obtain ⟨g', u', he, hu', hc, _⟩ := h.at (i * s + j) (by omega)
  cases he
  rw [hc]
  have := flatMap_at f s hf l i j l[i] (List.getElem?_eq_getElem hi) hj
  rw [hu', hu] at this
  exact this
structure OneM where
  cl : Int
  no : Int
  R : Rep
  p : Value
  q : Value
  vs : List ValT
def oneF (x : OneM) : List Value := [.int .i64 x.cl, .int .i64 x.no, .int .i64 x.R.code, .bool x.R.there, x.p, x.q, .int .i64 x.R.id]
theorem oneF_len (x : OneM) : (oneF x).length = 7 := rfl
def flF (x : Int × Int) : List Value := [.int .i64 x.1, .int .i64 x.2]
theorem flF_len (x : Int × Int) : (flF x).length = 2 := rfl
/-- The values of an answer that was handed to the reference: never turned again (colour 999). -/
structure ElAt (c : Nat → Nat) (w : World) (x : OneM) : Prop where
  own : OwnR 3 36 w x.p x.vs.length (x.vs.flatMap valF)
  hue : InC c 999 x.p
  ok : ∀ v ∈ x.vs, valOk v
  len : x.vs.length ≤ 1000
  rows : ∃ A n, x.q = .slice A 0 n ∧ n ≤ 9223372036854775807
structure RefAt (hu : Nat) (c : Nat → Nat) (w : World) (g : Nat) (vL vF : Value) (L : List OneM) (F : List (Int × Int)) : Prop where
  hh : 0 < hu ∧ hu < 999
  hue : c g = hu
  blk : Blk w g 45 #[vL, vF]
  rowL : OwnR 7 73 w vL L.length (L.flatMap oneF)
  rowF : OwnR 2 84 w vF F.length (F.flatMap flF)
  hueL : InC c hu vL
  hueF : InC c hu vF
  el : ∀ x ∈ L, ElAt c w x
section
variable {hu : Nat} {c c' : Nat → Nat} {w w' : World} {g : Nat} {vL vF : Value} {L : List OneM} {F : List (Int × Int)} {x : OneM}
theorem ElAt.turns {G : Nat → Prop} (h : ElAt c w x) (hT : Turns G w w') (hG : ∀ k, G k → c k ≠ 999) : ElAt c w' x := ⟨h.own.turns hT fun k hk e => hG k e (h.hue k hk), h.hue, h.ok, h.len, h.rows⟩
theorem ElAt.re (h : ElAt c w x) (hc : ∀ k, k < w.heap.size → c' k = c k) : ElAt c' w x := ⟨h.own, fun k hk => by rw [hc k (h.own.lt hk)]; exact h.hue k hk, h.ok, h.len, h.rows⟩
theorem ElAt.vals (h : ElAt c w x) : Vals w [x.p] x.vs := h.own.rd (fun _ => rfl) fun p hp => rVal_of (h.ok p hp)
theorem ElAt.one (h : ElAt c w x) : x.p.oneCell' = true := by obtain ⟨A, n, e, _⟩ := h.own.slice; rw [e]; rfl
theorem ElAt.oneq (h : ElAt c w x) : x.q.oneCell' = true := by obtain ⟨A, n, e, _⟩ := h.rows; rw [e]; rfl
theorem ElAt.noRows (h : ElAt c w x) : RowsR w' [x.q] [] := by
  obtain ⟨A, n, e, hn⟩ := h.rows
  exact ⟨A, n, by rw [e]; rfl, Nat.zero_le _, by simp only [maxLen]; omega, fun i x hx => by simp at hx⟩
theorem RefAt.turns {G : Nat → Prop} (h : RefAt hu c w g vL vF L F) (hT : Turns G w w') (hG : ∀ k, G k → c k % 1000 ≠ hu ∧ c k ≠ 999) : RefAt hu c w' g vL vF L F := by
  have e : ∀ k, c k = hu → ¬ G k := fun k hk hg => (hG k hg).1 (by rw [hk]; have := h.hh; omega)
  exact ⟨h.hh, h.hue, h.blk.turns hT (e g h.hue), h.rowL.turns hT fun k hk => e k (h.hueL k hk), h.rowF.turns hT fun k hk => e k (h.hueF k hk), h.hueL, h.hueF, fun x hx => (h.el x hx).turns hT fun k hk => (hG k hk).2⟩
theorem RefAt.below (h : RefAt hu c w g vL vF L F) (hb : Below w.heap.size w w') : RefAt hu c w' g vL vF L F := h.turns (G := fun _ => False) (Turns.of_below hb) fun _ h => h.elim
theorem RefAt.re (h : RefAt hu c w g vL vF L F) (hc : ∀ k, k < w.heap.size → c' k = c k) : RefAt hu c' w g vL vF L F :=
  ⟨h.hh, (hc g h.blk.lt).trans h.hue, h.blk, h.rowL, h.rowF, fun k hk => by rw [hc k (h.rowL.lt hk)]; exact h.hueL k hk, fun k hk => by rw [hc k (h.rowF.lt hk)]; exact h.hueF k hk, fun x hx => (h.el x hx).re hc⟩
end
theorem und41 : Try.prog.underlying 41 = some (.pointer 45) := by kernel_rfl
theorem und42 : Try.prog.underlying 42 = some (.slice 73) := by kernel_rfl
theorem und43 : Try.prog.underlying 43 = some (.slice 84) := by kernel_rfl
theorem one42 : oneB Try.prog 42 = true := by kernel_rfl
theorem one43 : oneB Try.prog 43 = true := by kernel_rfl
theorem sz42 : (Try.prog.info? 42).map (·.size) = some 1 := by kernel_rfl
theorem sz43 : (Try.prog.info? 43).map (·.size) = some 1 := by kernel_rfl
theorem sz73 : (Try.prog.info? 73).map (·.size) = some 7 := by kernel_rfl
theorem sz84 : (Try.prog.info? 84).map (·.size) = some 2 := by kernel_rfl
theorem agg73 : aggB Try.prog 73 = true := by kernel_rfl
theorem agg84 : aggB Try.prog 84 = true := by kernel_rfl
theorem inf3 : (Try.prog.info? 3).map (fun i => (i.zero, i.size, i.bytes)) = some (some (.int .i64 0), 1, 8) := by kernel_rfl
theorem inf84 : (Try.prog.info? 84).map (fun i => (i.zero, i.size, i.bytes)) = some (some (.agg #[.int .i64 0, .int .i64 0]), 2, 16) := by kernel_rfl
theorem inf73 : (Try.prog.info? 73).map (fun i => (i.zero, i.size, i.bytes)) = some (some (.agg #[.int .i64 0, .int .i64 0, .int .i64 0, .bool false, .slice none 0 0, .slice none 0 0, .int .i64 0]), 7, 88) := by kernel_rfl
theorem m0 : fofs Try.prog 45 0 = some (0, 1) := by kernel_rfl
theorem m1 : fofs Try.prog 45 1 = some (1, 1) := by kernel_rfl
theorem o0 : fofs Try.prog 73 0 = some (0, 1) := by kernel_rfl
theorem o1 : fofs Try.prog 73 1 = some (1, 1) := by kernel_rfl
theorem o2 : fofs Try.prog 73 2 = some (2, 5) := by kernel_rfl
theorem f0 : fofs Try.prog 84 0 = some (0, 1) := by kernel_rfl
theorem f1 : fofs Try.prog 84 1 = some (1, 1) := by kernel_rfl
theorem refBad_spec (id n : Int) (w : World) : CallP Try.prog 31 #[.int .i64 id, .int .i64 n] (fun r w' => r = .bool (badP id n) ∧ w = w') w := by
  refine ⟨S31.calls _ _ _ _ ?_⟩
  unfold S31
  refine bi_lss_c (fun h1 => ?_) (fun h1 => ?_)
  · (repeat with_reducible first | refine nck ?_ | refine cdT ?_ | refine cdF ?_ | refine gdY ?_ | refine gdFT ?_ | refine gdTF ?_ | refine gdU ?_ | refine gaY ?_ | refine gaFT ?_ | refine gaTF ?_ | refine pickT ?_ | refine pickF ?_ | refine bi_lss_t (by omega) ?_ | refine bi_lss_f (by omega) ?_ | refine bi_add64 (by omega) ?_ | refine bi_sub64 (by omega) ?_ | refine bi_eql_t (by omega) ?_ | refine bi_eql_f (by omega) ?_ | refine bi_neq_t (by omega) ?_ | refine bi_neq_f (by omega) ?_ | refine bi_gtr_t (by omega) ?_ | refine bi_gtr_f (by omega) ?_ | refine bi_leq_t (by omega) ?_ | refine bi_leq_f (by omega) ?_ | refine bi_geq_t (by omega) ?_ | refine bi_geq_f (by omega) ?_ | refine bi_xt0 ?_ | refine bi_xt1 ?_ | refine bi_xt2 ?_ | refine bi_xt3 ?_ | refine bi_T ?_ | refine bi_F ?_ | refine bi_not ?_ | refine bi_and ?_ | refine bi_or ?_ | refine bi_xor ?_ | refine bi_shr (by omega) (by decide) ?_ | refine bi_shl (by omega) (by decide) ?_ | refine bi_quo64 (by omega) ?_ | refine bi_rem64 (by omega) ?_ | refine bi_mul64 (by omega) ?_ | refine bi_neg ?_ | refine bi_un_xor32 ?_ | refine bi_add ?_ | refine bi_sub ?_ | refine bi_mul ?_ | refine bi_quo (by decide) ?_ | refine bi_rem (by decide) ?_)
    exact ⟨by simp [badP]; omega, rfl⟩
  (repeat with_reducible first | refine nck ?_ | refine cdT ?_ | refine cdF ?_ | refine gdY ?_ | refine gdFT ?_ | refine gdTF ?_ | refine gdU ?_ | refine gaY ?_ | refine gaFT ?_ | refine gaTF ?_ | refine pickT ?_ | refine pickF ?_ | refine bi_lss_t (by omega) ?_ | refine bi_lss_f (by omega) ?_ | refine bi_add64 (by omega) ?_ | refine bi_sub64 (by omega) ?_ | refine bi_eql_t (by omega) ?_ | refine bi_eql_f (by omega) ?_ | refine bi_neq_t (by omega) ?_ | refine bi_neq_f (by omega) ?_ | refine bi_gtr_t (by omega) ?_ | refine bi_gtr_f (by omega) ?_ | refine bi_leq_t (by omega) ?_ | refine bi_leq_f (by omega) ?_ | refine bi_geq_t (by omega) ?_ | refine bi_geq_f (by omega) ?_ | refine bi_xt0 ?_ | refine bi_xt1 ?_ | refine bi_xt2 ?_ | refine bi_xt3 ?_ | refine bi_T ?_ | refine bi_F ?_ | refine bi_not ?_ | refine bi_and ?_ | refine bi_or ?_ | refine bi_xor ?_ | refine bi_shr (by omega) (by decide) ?_ | refine bi_shl (by omega) (by decide) ?_ | refine bi_quo64 (by omega) ?_ | refine bi_rem64 (by omega) ?_ | refine bi_mul64 (by omega) ?_ | refine bi_neg ?_ | refine bi_un_xor32 ?_ | refine bi_add ?_ | refine bi_sub ?_ | refine bi_mul ?_ | refine bi_quo (by decide) ?_ | refine bi_rem (by decide) ?_)
  refine bi_gtr_c (fun h2 => ?_) (fun h2 => ?_)
  · (repeat with_reducible first | refine nck ?_ | refine cdT ?_ | refine cdF ?_ | refine gdY ?_ | refine gdFT ?_ | refine gdTF ?_ | refine gdU ?_ | refine gaY ?_ | refine gaFT ?_ | refine gaTF ?_ | refine pickT ?_ | refine pickF ?_ | refine bi_lss_t (by omega) ?_ | refine bi_lss_f (by omega) ?_ | refine bi_add64 (by omega) ?_ | refine bi_sub64 (by omega) ?_ | refine bi_eql_t (by omega) ?_ | refine bi_eql_f (by omega) ?_ | refine bi_neq_t (by omega) ?_ | refine bi_neq_f (by omega) ?_ | refine bi_gtr_t (by omega) ?_ | refine bi_gtr_f (by omega) ?_ | refine bi_leq_t (by omega) ?_ | refine bi_leq_f (by omega) ?_ | refine bi_geq_t (by omega) ?_ | refine bi_geq_f (by omega) ?_ | refine bi_xt0 ?_ | refine bi_xt1 ?_ | refine bi_xt2 ?_ | refine bi_xt3 ?_ | refine bi_T ?_ | refine bi_F ?_ | refine bi_not ?_ | refine bi_and ?_ | refine bi_or ?_ | refine bi_xor ?_ | refine bi_shr (by omega) (by decide) ?_ | refine bi_shl (by omega) (by decide) ?_ | refine bi_quo64 (by omega) ?_ | refine bi_rem64 (by omega) ?_ | refine bi_mul64 (by omega) ?_ | refine bi_neg ?_ | refine bi_un_xor32 ?_ | refine bi_add ?_ | refine bi_sub ?_ | refine bi_mul ?_ | refine bi_quo (by decide) ?_ | refine bi_rem (by decide) ?_)
    exact ⟨by simp [badP]; omega, rfl⟩
  (repeat with_reducible first | refine nck ?_ | refine cdT ?_ | refine cdF ?_ | refine gdY ?_ | refine gdFT ?_ | refine gdTF ?_ | refine gdU ?_ | refine gaY ?_ | refine gaFT ?_ | refine gaTF ?_ | refine pickT ?_ | refine pickF ?_ | refine bi_lss_t (by omega) ?_ | refine bi_lss_f (by omega) ?_ | refine bi_add64 (by omega) ?_ | refine bi_sub64 (by omega) ?_ | refine bi_eql_t (by omega) ?_ | refine bi_eql_f (by omega) ?_ | refine bi_neq_t (by omega) ?_ | refine bi_neq_f (by omega) ?_ | refine bi_gtr_t (by omega) ?_ | refine bi_gtr_f (by omega) ?_ | refine bi_leq_t (by omega) ?_ | refine bi_leq_f (by omega) ?_ | refine bi_geq_t (by omega) ?_ | refine bi_geq_f (by omega) ?_ | refine bi_xt0 ?_ | refine bi_xt1 ?_ | refine bi_xt2 ?_ | refine bi_xt3 ?_ | refine bi_T ?_ | refine bi_F ?_ | refine bi_not ?_ | refine bi_and ?_ | refine bi_or ?_ | refine bi_xor ?_ | refine bi_shr (by omega) (by decide) ?_ | refine bi_shl (by omega) (by decide) ?_ | refine bi_quo64 (by omega) ?_ | refine bi_rem64 (by omega) ?_ | refine bi_mul64 (by omega) ?_ | refine bi_neg ?_ | refine bi_un_xor32 ?_ | refine bi_add ?_ | refine bi_sub ?_ | refine bi_mul ?_ | refine bi_quo (by decide) ?_ | refine bi_rem (by decide) ?_)
  refine bi_lss_c (fun h3 => ?_) (fun h3 => ?_)
  · (repeat with_reducible first | refine nck ?_ | refine cdT ?_ | refine cdF ?_ | refine gdY ?_ | refine gdFT ?_ | refine gdTF ?_ | refine gdU ?_ | refine gaY ?_ | refine gaFT ?_ | refine gaTF ?_ | refine pickT ?_ | refine pickF ?_ | refine bi_lss_t (by omega) ?_ | refine bi_lss_f (by omega) ?_ | refine bi_add64 (by omega) ?_ | refine bi_sub64 (by omega) ?_ | refine bi_eql_t (by omega) ?_ | refine bi_eql_f (by omega) ?_ | refine bi_neq_t (by omega) ?_ | refine bi_neq_f (by omega) ?_ | refine bi_gtr_t (by omega) ?_ | refine bi_gtr_f (by omega) ?_ | refine bi_leq_t (by omega) ?_ | refine bi_leq_f (by omega) ?_ | refine bi_geq_t (by omega) ?_ | refine bi_geq_f (by omega) ?_ | refine bi_xt0 ?_ | refine bi_xt1 ?_ | refine bi_xt2 ?_ | refine bi_xt3 ?_ | refine bi_T ?_ | refine bi_F ?_ | refine bi_not ?_ | refine bi_and ?_ | refine bi_or ?_ | refine bi_xor ?_ | refine bi_shr (by omega) (by decide) ?_ | refine bi_shl (by omega) (by decide) ?_ | refine bi_quo64 (by omega) ?_ | refine bi_rem64 (by omega) ?_ | refine bi_mul64 (by omega) ?_ | refine bi_neg ?_ | refine bi_un_xor32 ?_ | refine bi_add ?_ | refine bi_sub ?_ | refine bi_mul ?_ | refine bi_quo (by decide) ?_ | refine bi_rem (by decide) ?_)
    exact ⟨by simp [badP]; omega, rfl⟩
  (repeat with_reducible first | refine nck ?_ | refine cdT ?_ | refine cdF ?_ | refine gdY ?_ | refine gdFT ?_ | refine gdTF ?_ | refine gdU ?_ | refine gaY ?_ | refine gaFT ?_ | refine gaTF ?_ | refine pickT ?_ | refine pickF ?_ | refine bi_lss_t (by omega) ?_ | refine bi_lss_f (by omega) ?_ | refine bi_add64 (by omega) ?_ | refine bi_sub64 (by omega) ?_ | refine bi_eql_t (by omega) ?_ | refine bi_eql_f (by omega) ?_ | refine bi_neq_t (by omega) ?_ | refine bi_neq_f (by omega) ?_ | refine bi_gtr_t (by omega) ?_ | refine bi_gtr_f (by omega) ?_ | refine bi_leq_t (by omega) ?_ | refine bi_leq_f (by omega) ?_ | refine bi_geq_t (by omega) ?_ | refine bi_geq_f (by omega) ?_ | refine bi_xt0 ?_ | refine bi_xt1 ?_ | refine bi_xt2 ?_ | refine bi_xt3 ?_ | refine bi_T ?_ | refine bi_F ?_ | refine bi_not ?_ | refine bi_and ?_ | refine bi_or ?_ | refine bi_xor ?_ | refine bi_shr (by omega) (by decide) ?_ | refine bi_shl (by omega) (by decide) ?_ | refine bi_quo64 (by omega) ?_ | refine bi_rem64 (by omega) ?_ | refine bi_mul64 (by omega) ?_ | refine bi_neg ?_ | refine bi_un_xor32 ?_ | refine bi_add ?_ | refine bi_sub ?_ | refine bi_mul ?_ | refine bi_quo (by decide) ?_ | refine bi_rem (by decide) ?_)
  refine bi_gtr_c (fun h4 => ?_) (fun h4 => ?_)
  · (repeat with_reducible first | refine nck ?_ | refine cdT ?_ | refine cdF ?_ | refine gdY ?_ | refine gdFT ?_ | refine gdTF ?_ | refine gdU ?_ | refine gaY ?_ | refine gaFT ?_ | refine gaTF ?_ | refine pickT ?_ | refine pickF ?_ | refine bi_lss_t (by omega) ?_ | refine bi_lss_f (by omega) ?_ | refine bi_add64 (by omega) ?_ | refine bi_sub64 (by omega) ?_ | refine bi_eql_t (by omega) ?_ | refine bi_eql_f (by omega) ?_ | refine bi_neq_t (by omega) ?_ | refine bi_neq_f (by omega) ?_ | refine bi_gtr_t (by omega) ?_ | refine bi_gtr_f (by omega) ?_ | refine bi_leq_t (by omega) ?_ | refine bi_leq_f (by omega) ?_ | refine bi_geq_t (by omega) ?_ | refine bi_geq_f (by omega) ?_ | refine bi_xt0 ?_ | refine bi_xt1 ?_ | refine bi_xt2 ?_ | refine bi_xt3 ?_ | refine bi_T ?_ | refine bi_F ?_ | refine bi_not ?_ | refine bi_and ?_ | refine bi_or ?_ | refine bi_xor ?_ | refine bi_shr (by omega) (by decide) ?_ | refine bi_shl (by omega) (by decide) ?_ | refine bi_quo64 (by omega) ?_ | refine bi_rem64 (by omega) ?_ | refine bi_mul64 (by omega) ?_ | refine bi_neg ?_ | refine bi_un_xor32 ?_ | refine bi_add ?_ | refine bi_sub ?_ | refine bi_mul ?_ | refine bi_quo (by decide) ?_ | refine bi_rem (by decide) ?_)
    exact ⟨by simp [badP]; omega, rfl⟩
  (repeat with_reducible first | refine nck ?_ | refine cdT ?_ | refine cdF ?_ | refine gdY ?_ | refine gdFT ?_ | refine gdTF ?_ | refine gdU ?_ | refine gaY ?_ | refine gaFT ?_ | refine gaTF ?_ | refine pickT ?_ | refine pickF ?_ | refine bi_lss_t (by omega) ?_ | refine bi_lss_f (by omega) ?_ | refine bi_add64 (by omega) ?_ | refine bi_sub64 (by omega) ?_ | refine bi_eql_t (by omega) ?_ | refine bi_eql_f (by omega) ?_ | refine bi_neq_t (by omega) ?_ | refine bi_neq_f (by omega) ?_ | refine bi_gtr_t (by omega) ?_ | refine bi_gtr_f (by omega) ?_ | refine bi_leq_t (by omega) ?_ | refine bi_leq_f (by omega) ?_ | refine bi_geq_t (by omega) ?_ | refine bi_geq_f (by omega) ?_ | refine bi_xt0 ?_ | refine bi_xt1 ?_ | refine bi_xt2 ?_ | refine bi_xt3 ?_ | refine bi_T ?_ | refine bi_F ?_ | refine bi_not ?_ | refine bi_and ?_ | refine bi_or ?_ | refine bi_xor ?_ | refine bi_shr (by omega) (by decide) ?_ | refine bi_shl (by omega) (by decide) ?_ | refine bi_quo64 (by omega) ?_ | refine bi_rem64 (by omega) ?_ | refine bi_mul64 (by omega) ?_ | refine bi_neg ?_ | refine bi_un_xor32 ?_ | refine bi_add ?_ | refine bi_sub ?_ | refine bi_mul ?_ | refine bi_quo (by decide) ?_ | refine bi_rem (by decide) ?_)
  exact ⟨by simp [badP]; omega, rfl⟩
def floorOf (F : List (Int × Int)) (id : Int) : Int := (getK id F).getD 0
theorem getK_skip {α : Type} (k : Int) : ∀ (l : List (Int × α)) (i : Nat), (∀ p ∈ l.take i, p.1 ≠ k) → getK k l = getK k (l.drop i)
  | l, 0, _ => rfl
  | [], i + 1, _ => rfl
  | (a, v) :: r, i + 1, h => by
    rw [List.drop_succ_cons, getK, if_neg (fun e => h (a, v) (by simp) e.symm)]
    exact getK_skip k r i fun p hp => h p (by simp [hp])
theorem refFloor_spec {hu : Nat} {c : Nat → Nat} {w : World} {g : Nat} {vL vF : Value} {L : List OneM} {F : List (Int × Int)} (id : Int) (h : RefAt hu c w g vL vF L F) (hl : F.length ≤ 1000000) :
    CallP Try.prog 32 #[.pointer (some ⟨g, 0, none⟩), .int .i64 id] (fun r w' => r = .int .i64 (floorOf F id) ∧ w = w') w := by
  refine ⟨S32.calls _ _ _ _ ?_⟩
  unfold S32
  have hF := h.rowF
  have c1 : w.cell? ⟨g, 1, none⟩ = some vF := h.blk.cell 1
  obtain ⟨A, cF, rfl, _, _⟩ := hF.slice
  refine LoopP.inv1 (fun iv w' => ∃ i : Nat, i ≤ F.length ∧ iv = .int .i64 i ∧ (∀ p ∈ F.take i, p.1 ≠ id) ∧ w = w') (fun iv _ => F.length - (intOf iv).toNat) ⟨0, by omega, rfl, by simp, rfl⟩ ?_
  rintro _ _ ⟨i, hi, rfl, hall, rfl⟩ J hJ
  dsimp only [List.headD_cons, List.tail_cons]
  (repeat with_reducible first | refine fd m1 (by decide) ?_ | refine ld one43 c1 ?_ | refine nck ?_ | refine cdT ?_ | refine cdF ?_ | refine gdY ?_ | refine gdFT ?_ | refine gdTF ?_ | refine gdU ?_ | refine gaY ?_ | refine gaFT ?_ | refine gaTF ?_ | refine pickT ?_ | refine pickF ?_ | refine bi_lss_t (by omega) ?_ | refine bi_lss_f (by omega) ?_ | refine bi_add64 (by omega) ?_ | refine bi_sub64 (by omega) ?_ | refine bi_eql_t (by omega) ?_ | refine bi_eql_f (by omega) ?_ | refine bi_neq_t (by omega) ?_ | refine bi_neq_f (by omega) ?_ | refine bi_gtr_t (by omega) ?_ | refine bi_gtr_f (by omega) ?_ | refine bi_leq_t (by omega) ?_ | refine bi_leq_f (by omega) ?_ | refine bi_geq_t (by omega) ?_ | refine bi_geq_f (by omega) ?_ | refine bi_xt0 ?_ | refine bi_xt1 ?_ | refine bi_xt2 ?_ | refine bi_xt3 ?_ | refine bi_T ?_ | refine bi_F ?_ | refine bi_not ?_ | refine bi_and ?_ | refine bi_or ?_ | refine bi_xor ?_ | refine bi_shr (by omega) (by decide) ?_ | refine bi_shl (by omega) (by decide) ?_ | refine bi_quo64 (by omega) ?_ | refine bi_rem64 (by omega) ?_ | refine bi_mul64 (by omega) ?_ | refine bi_neg ?_ | refine bi_un_xor32 ?_ | refine bi_add ?_ | refine bi_sub ?_ | refine bi_mul ?_ | refine bi_quo (by decide) ?_ | refine bi_rem (by decide) ?_)
  refine ln und43 ?_
  refine bi_lss_c (fun hlt => ?_) (fun hlt => ?_)
  · have hi' : i < F.length := by omega
    obtain ⟨gF, cF', he, hcell⟩ := rowAt flF_len hF i hi' (by decide)
    cases he
    have d0 : w.cell? ⟨gF, i * 2 + 0, none⟩ = some (.int .i64 F[i].1) := hcell 0 _ rfl
    have d1 : w.cell? ⟨gF, i * 2 + 1, none⟩ = some (.int .i64 F[i].2) := hcell 1 _ rfl
    (repeat with_reducible first | refine fd m1 (by decide) ?_ | refine ld one43 c1 ?_ | refine ixG und43 sz84 i hi' ?_ | refine fdG f0 (by decide) ?_ | refine ld one3 d0 ?_ | refine nck ?_ | refine cdT ?_ | refine cdF ?_ | refine gdY ?_ | refine gdFT ?_ | refine gdTF ?_ | refine gdU ?_ | refine gaY ?_ | refine gaFT ?_ | refine gaTF ?_ | refine pickT ?_ | refine pickF ?_ | refine bi_lss_t (by omega) ?_ | refine bi_lss_f (by omega) ?_ | refine bi_add64 (by omega) ?_ | refine bi_sub64 (by omega) ?_ | refine bi_eql_t (by omega) ?_ | refine bi_eql_f (by omega) ?_ | refine bi_neq_t (by omega) ?_ | refine bi_neq_f (by omega) ?_ | refine bi_gtr_t (by omega) ?_ | refine bi_gtr_f (by omega) ?_ | refine bi_leq_t (by omega) ?_ | refine bi_leq_f (by omega) ?_ | refine bi_geq_t (by omega) ?_ | refine bi_geq_f (by omega) ?_ | refine bi_xt0 ?_ | refine bi_xt1 ?_ | refine bi_xt2 ?_ | refine bi_xt3 ?_ | refine bi_T ?_ | refine bi_F ?_ | refine bi_not ?_ | refine bi_and ?_ | refine bi_or ?_ | refine bi_xor ?_ | refine bi_shr (by omega) (by decide) ?_ | refine bi_shl (by omega) (by decide) ?_ | refine bi_quo64 (by omega) ?_ | refine bi_rem64 (by omega) ?_ | refine bi_mul64 (by omega) ?_ | refine bi_neg ?_ | refine bi_un_xor32 ?_ | refine bi_add ?_ | refine bi_sub ?_ | refine bi_mul ?_ | refine bi_quo (by decide) ?_ | refine bi_rem (by decide) ?_)
    refine bi_eql_c (fun he => ?_) (fun he => ?_)
    · (repeat with_reducible first | refine fd m1 (by decide) ?_ | refine ld one43 c1 ?_ | refine ixG und43 sz84 i hi' ?_ | refine fdG f1 (by decide) ?_ | refine ld one3 d1 ?_ | refine nck ?_ | refine cdT ?_ | refine cdF ?_ | refine gdY ?_ | refine gdFT ?_ | refine gdTF ?_ | refine gdU ?_ | refine gaY ?_ | refine gaFT ?_ | refine gaTF ?_ | refine pickT ?_ | refine pickF ?_ | refine bi_lss_t (by omega) ?_ | refine bi_lss_f (by omega) ?_ | refine bi_add64 (by omega) ?_ | refine bi_sub64 (by omega) ?_ | refine bi_eql_t (by omega) ?_ | refine bi_eql_f (by omega) ?_ | refine bi_neq_t (by omega) ?_ | refine bi_neq_f (by omega) ?_ | refine bi_gtr_t (by omega) ?_ | refine bi_gtr_f (by omega) ?_ | refine bi_leq_t (by omega) ?_ | refine bi_leq_f (by omega) ?_ | refine bi_geq_t (by omega) ?_ | refine bi_geq_f (by omega) ?_ | refine bi_xt0 ?_ | refine bi_xt1 ?_ | refine bi_xt2 ?_ | refine bi_xt3 ?_ | refine bi_T ?_ | refine bi_F ?_ | refine bi_not ?_ | refine bi_and ?_ | refine bi_or ?_ | refine bi_xor ?_ | refine bi_shr (by omega) (by decide) ?_ | refine bi_shl (by omega) (by decide) ?_ | refine bi_quo64 (by omega) ?_ | refine bi_rem64 (by omega) ?_ | refine bi_mul64 (by omega) ?_ | refine bi_neg ?_ | refine bi_un_xor32 ?_ | refine bi_add ?_ | refine bi_sub ?_ | refine bi_mul ?_ | refine bi_quo (by decide) ?_ | refine bi_rem (by decide) ?_)
      refine ⟨?_, rfl⟩
      have hd : F.drop i = F[i] :: F.drop (i + 1) := List.drop_eq_getElem_cons hi'
      have hp : F[i] = (F[i].1, F[i].2) := rfl
      rw [floorOf, getK_skip id F i hall, hd, hp, getK, if_pos he.symm]
      rfl
    · (repeat with_reducible first | refine nck ?_ | refine cdT ?_ | refine cdF ?_ | refine gdY ?_ | refine gdFT ?_ | refine gdTF ?_ | refine gdU ?_ | refine gaY ?_ | refine gaFT ?_ | refine gaTF ?_ | refine pickT ?_ | refine pickF ?_ | refine bi_lss_t (by omega) ?_ | refine bi_lss_f (by omega) ?_ | refine bi_add64 (by omega) ?_ | refine bi_sub64 (by omega) ?_ | refine bi_eql_t (by omega) ?_ | refine bi_eql_f (by omega) ?_ | refine bi_neq_t (by omega) ?_ | refine bi_neq_f (by omega) ?_ | refine bi_gtr_t (by omega) ?_ | refine bi_gtr_f (by omega) ?_ | refine bi_leq_t (by omega) ?_ | refine bi_leq_f (by omega) ?_ | refine bi_geq_t (by omega) ?_ | refine bi_geq_f (by omega) ?_ | refine bi_xt0 ?_ | refine bi_xt1 ?_ | refine bi_xt2 ?_ | refine bi_xt3 ?_ | refine bi_T ?_ | refine bi_F ?_ | refine bi_not ?_ | refine bi_and ?_ | refine bi_or ?_ | refine bi_xor ?_ | refine bi_shr (by omega) (by decide) ?_ | refine bi_shl (by omega) (by decide) ?_ | refine bi_quo64 (by omega) ?_ | refine bi_rem64 (by omega) ?_ | refine bi_mul64 (by omega) ?_ | refine bi_neg ?_ | refine bi_un_xor32 ?_ | refine bi_add ?_ | refine bi_sub ?_ | refine bi_mul ?_ | refine bi_quo (by decide) ?_ | refine bi_rem (by decide) ?_)
      refine hJ _ _ ⟨i + 1, by omega, by simp, fun p hp => ?_, rfl⟩ (by simp [intOf]; omega)
      rw [List.take_succ_eq_append_getElem hi'] at hp
      rcases List.mem_append.1 hp with hp | hp
      · exact hall p hp
      · simp only [List.mem_cons, List.not_mem_nil, or_false] at hp
        subst hp; exact he
  · (repeat with_reducible first | refine nck ?_ | refine cdT ?_ | refine cdF ?_ | refine gdY ?_ | refine gdFT ?_ | refine gdTF ?_ | refine gdU ?_ | refine gaY ?_ | refine gaFT ?_ | refine gaTF ?_ | refine pickT ?_ | refine pickF ?_ | refine bi_lss_t (by omega) ?_ | refine bi_lss_f (by omega) ?_ | refine bi_add64 (by omega) ?_ | refine bi_sub64 (by omega) ?_ | refine bi_eql_t (by omega) ?_ | refine bi_eql_f (by omega) ?_ | refine bi_neq_t (by omega) ?_ | refine bi_neq_f (by omega) ?_ | refine bi_gtr_t (by omega) ?_ | refine bi_gtr_f (by omega) ?_ | refine bi_leq_t (by omega) ?_ | refine bi_leq_f (by omega) ?_ | refine bi_geq_t (by omega) ?_ | refine bi_geq_f (by omega) ?_ | refine bi_xt0 ?_ | refine bi_xt1 ?_ | refine bi_xt2 ?_ | refine bi_xt3 ?_ | refine bi_T ?_ | refine bi_F ?_ | refine bi_not ?_ | refine bi_and ?_ | refine bi_or ?_ | refine bi_xor ?_ | refine bi_shr (by omega) (by decide) ?_ | refine bi_shl (by omega) (by decide) ?_ | refine bi_quo64 (by omega) ?_ | refine bi_rem64 (by omega) ?_ | refine bi_mul64 (by omega) ?_ | refine bi_neg ?_ | refine bi_un_xor32 ?_ | refine bi_add ?_ | refine bi_sub ?_ | refine bi_mul ?_ | refine bi_quo (by decide) ?_ | refine bi_rem (by decide) ?_)
    have : i = F.length := by omega
    subst this
    refine ⟨?_, rfl⟩
    rw [List.take_length] at hall
    rw [floorOf, getK_none_of id F hall]; rfl
def knownL (L : List OneM) (id : Int) : List Int := (L.filter fun x => decide (x.cl = id)).map (·.no)
theorem refKnown_spec {hu : Nat} {c : Nat → Nat} {w : World} {g : Nat} {vL vF : Value} {L : List OneM} {F : List (Int × Int)} (id : Int) (h : RefAt hu c w g vL vF L F) (hl : L.length ≤ 100000) :
    CallP Try.prog 35 #[.pointer (some ⟨g, 0, none⟩), .int .i64 id] (fun r w' => Own 3 w' r ((knownL L id).map (Value.int .i64)) ∧ Fresh w.heap.size r ∧ Below w.heap.size w w') w := by
  refine ⟨S35.calls _ _ _ _ ?_⟩
  unfold S35
  have hL0 := h.rowL
  obtain ⟨A, cL, rfl, _, _⟩ := hL0.slice
  refine LoopP.inv2 (fun rv iv w' => ∃ i : Nat, i ≤ L.length ∧ iv = .int .i64 i ∧ Own 3 w' rv ((knownL (L.take i) id).map (Value.int .i64)) ∧ Fresh w.heap.size rv ∧ Below w.heap.size w w') (fun _ iv _ => L.length - (intOf iv).toNat)
    ⟨0, by omega, rfl, by simpa [knownL] using Own.nil 3 w, Fresh.nil _, Below.refl _ _⟩ ?_
  rintro rv _ w1 ⟨i, hi, rfl, hown, hfr, hb1⟩ J hJ
  dsimp only [List.headD_cons, List.tail_cons]
  have h1 := h.below hb1
  have hL := h1.rowL
  have c0 : w1.cell? ⟨g, 0, none⟩ = some (.slice A L.length cL) := h1.blk.cell 0
  (repeat with_reducible first | refine fd m0 (by decide) ?_ | refine ld one42 c0 ?_ | refine nck ?_ | refine cdT ?_ | refine cdF ?_ | refine gdY ?_ | refine gdFT ?_ | refine gdTF ?_ | refine gdU ?_ | refine gaY ?_ | refine gaFT ?_ | refine gaTF ?_ | refine pickT ?_ | refine pickF ?_ | refine bi_lss_t (by omega) ?_ | refine bi_lss_f (by omega) ?_ | refine bi_add64 (by omega) ?_ | refine bi_sub64 (by omega) ?_ | refine bi_eql_t (by omega) ?_ | refine bi_eql_f (by omega) ?_ | refine bi_neq_t (by omega) ?_ | refine bi_neq_f (by omega) ?_ | refine bi_gtr_t (by omega) ?_ | refine bi_gtr_f (by omega) ?_ | refine bi_leq_t (by omega) ?_ | refine bi_leq_f (by omega) ?_ | refine bi_geq_t (by omega) ?_ | refine bi_geq_f (by omega) ?_ | refine bi_xt0 ?_ | refine bi_xt1 ?_ | refine bi_xt2 ?_ | refine bi_xt3 ?_ | refine bi_T ?_ | refine bi_F ?_ | refine bi_not ?_ | refine bi_and ?_ | refine bi_or ?_ | refine bi_xor ?_ | refine bi_shr (by omega) (by decide) ?_ | refine bi_shl (by omega) (by decide) ?_ | refine bi_quo64 (by omega) ?_ | refine bi_rem64 (by omega) ?_ | refine bi_mul64 (by omega) ?_ | refine bi_neg ?_ | refine bi_un_xor32 ?_ | refine bi_add ?_ | refine bi_sub ?_ | refine bi_mul ?_ | refine bi_quo (by decide) ?_ | refine bi_rem (by decide) ?_)
  refine ln und42 ?_
  refine bi_lss_c (fun hlt => ?_) (fun hlt => ?_)
  · have hi' : i < L.length := by omega
    obtain ⟨gL, cL', he, hcell⟩ := rowAt oneF_len hL i hi' (by decide)
    cases he
    have d0 : w1.cell? ⟨gL, i * 7 + 0, none⟩ = some (.int .i64 L[i].cl) := hcell 0 _ rfl
    have d1 : w1.cell? ⟨gL, i * 7 + 1, none⟩ = some (.int .i64 L[i].no) := hcell 1 _ rfl
    have hstep : knownL (L.take (i + 1)) id = knownL (L.take i) id ++ (if L[i].cl = id then [L[i].no] else []) := by
      unfold knownL
      rw [List.take_succ_eq_append_getElem hi', List.filter_append, List.map_append]
      congr 1
      by_cases e : L[i].cl = id
      · simp [e]
      · simp [e]
    (repeat with_reducible first | refine nck ?_ | refine cdT ?_ | refine cdF ?_ | refine gdY ?_ | refine gdFT ?_ | refine gdTF ?_ | refine gdU ?_ | refine gaY ?_ | refine gaFT ?_ | refine gaTF ?_ | refine pickT ?_ | refine pickF ?_ | refine bi_lss_t (by omega) ?_ | refine bi_lss_f (by omega) ?_ | refine bi_add64 (by omega) ?_ | refine bi_sub64 (by omega) ?_ | refine bi_eql_t (by omega) ?_ | refine bi_eql_f (by omega) ?_ | refine bi_neq_t (by omega) ?_ | refine bi_neq_f (by omega) ?_ | refine bi_gtr_t (by omega) ?_ | refine bi_gtr_f (by omega) ?_ | refine bi_leq_t (by omega) ?_ | refine bi_leq_f (by omega) ?_ | refine bi_geq_t (by omega) ?_ | refine bi_geq_f (by omega) ?_ | refine bi_xt0 ?_ | refine bi_xt1 ?_ | refine bi_xt2 ?_ | refine bi_xt3 ?_ | refine bi_T ?_ | refine bi_F ?_ | refine bi_not ?_ | refine bi_and ?_ | refine bi_or ?_ | refine bi_xor ?_ | refine bi_shr (by omega) (by decide) ?_ | refine bi_shl (by omega) (by decide) ?_ | refine bi_quo64 (by omega) ?_ | refine bi_rem64 (by omega) ?_ | refine bi_mul64 (by omega) ?_ | refine bi_neg ?_ | refine bi_un_xor32 ?_ | refine bi_add ?_ | refine bi_sub ?_ | refine bi_mul ?_ | refine bi_quo (by decide) ?_ | refine bi_rem (by decide) ?_)
    refine JoinP.cut (fun xs w' => ∃ rv', xs = [rv'] ∧ Own 3 w' rv' ((knownL (L.take (i + 1)) id).map (Value.int .i64)) ∧ Fresh w.heap.size rv' ∧ Below w.heap.size w w') (fun J1 hJ1 => ?_) (fun xs w' hI => ?_)
    · (repeat with_reducible first | refine fd m0 (by decide) ?_ | refine ld one42 c0 ?_ | refine ixG und42 sz73 i hi' ?_ | refine fdG o0 (by decide) ?_ | refine ld one3 d0 ?_ | refine nck ?_ | refine cdT ?_ | refine cdF ?_ | refine gdY ?_ | refine gdFT ?_ | refine gdTF ?_ | refine gdU ?_ | refine gaY ?_ | refine gaFT ?_ | refine gaTF ?_ | refine pickT ?_ | refine pickF ?_ | refine bi_lss_t (by omega) ?_ | refine bi_lss_f (by omega) ?_ | refine bi_add64 (by omega) ?_ | refine bi_sub64 (by omega) ?_ | refine bi_eql_t (by omega) ?_ | refine bi_eql_f (by omega) ?_ | refine bi_neq_t (by omega) ?_ | refine bi_neq_f (by omega) ?_ | refine bi_gtr_t (by omega) ?_ | refine bi_gtr_f (by omega) ?_ | refine bi_leq_t (by omega) ?_ | refine bi_leq_f (by omega) ?_ | refine bi_geq_t (by omega) ?_ | refine bi_geq_f (by omega) ?_ | refine bi_xt0 ?_ | refine bi_xt1 ?_ | refine bi_xt2 ?_ | refine bi_xt3 ?_ | refine bi_T ?_ | refine bi_F ?_ | refine bi_not ?_ | refine bi_and ?_ | refine bi_or ?_ | refine bi_xor ?_ | refine bi_shr (by omega) (by decide) ?_ | refine bi_shl (by omega) (by decide) ?_ | refine bi_quo64 (by omega) ?_ | refine bi_rem64 (by omega) ?_ | refine bi_mul64 (by omega) ?_ | refine bi_neg ?_ | refine bi_un_xor32 ?_ | refine bi_add ?_ | refine bi_sub ?_ | refine bi_mul ?_ | refine bi_quo (by decide) ?_ | refine bi_rem (by decide) ?_)
      refine bi_eql_c (fun he => ?_) (fun he => ?_)
      · (repeat with_reducible first | refine fd m0 (by decide) ?_ | refine ld one42 c0 ?_ | refine ixG und42 sz73 i hi' ?_ | refine fdG o1 (by decide) ?_ | refine ld one3 d1 ?_ | refine nck ?_ | refine cdT ?_ | refine cdF ?_ | refine gdY ?_ | refine gdFT ?_ | refine gdTF ?_ | refine gdU ?_ | refine gaY ?_ | refine gaFT ?_ | refine gaTF ?_ | refine pickT ?_ | refine pickF ?_ | refine bi_lss_t (by omega) ?_ | refine bi_lss_f (by omega) ?_ | refine bi_add64 (by omega) ?_ | refine bi_sub64 (by omega) ?_ | refine bi_eql_t (by omega) ?_ | refine bi_eql_f (by omega) ?_ | refine bi_neq_t (by omega) ?_ | refine bi_neq_f (by omega) ?_ | refine bi_gtr_t (by omega) ?_ | refine bi_gtr_f (by omega) ?_ | refine bi_leq_t (by omega) ?_ | refine bi_leq_f (by omega) ?_ | refine bi_geq_t (by omega) ?_ | refine bi_geq_f (by omega) ?_ | refine bi_xt0 ?_ | refine bi_xt1 ?_ | refine bi_xt2 ?_ | refine bi_xt3 ?_ | refine bi_T ?_ | refine bi_F ?_ | refine bi_not ?_ | refine bi_and ?_ | refine bi_or ?_ | refine bi_xor ?_ | refine bi_shr (by omega) (by decide) ?_ | refine bi_shl (by omega) (by decide) ?_ | refine bi_quo64 (by omega) ?_ | refine bi_rem64 (by omega) ?_ | refine bi_mul64 (by omega) ?_ | refine bi_neg ?_ | refine bi_un_xor32 ?_ | refine bi_add ?_ | refine bi_sub ?_ | refine bi_mul ?_ | refine bi_quo (by decide) ?_ | refine bi_rem (by decide) ?_)
        refine lift (v := .slice (some ⟨w1.heap.size, 0, none⟩) 1 1) (w' := w1.alloc (.cells #[.int .i64 L[i].no] 3)) (by kernel_rfl) ?_
        have hb2 := (Below.refl w1.heap.size w1).alloc (Nat.le_refl _) (.cells #[.int .i64 L[i].no] 3)
        have hx : Rd (w1.alloc (.cells #[.int .i64 L[i].no] 3)) (.slice (some ⟨w1.heap.size, 0, none⟩) 1 1) [.int .i64 L[i].no] := (Own.new w1 3 [.int .i64 L[i].no] (by simp)).rd
        have hs1 := hb1.size
        have hs2 := hb2.size
        have hlk : (knownL (L.take i) id).length ≤ L.length := by
          unfold knownL
          rw [List.length_map]
          exact Nat.le_trans (List.length_filter_le _ _) (by rw [List.length_take]; omega)
        refine apF w.heap.size und51 inf3 (by rfl) (by decide) (hown.below hb2) hfr (by omega) hx (by simp [Value.oneCell']) (by simp; omega) ?_
        intro rv2 w2 ho2 hf2 hb3 _
        refine hJ1 _ _ ⟨rv2, rfl, ?_, hf2, hb1.trans ((hb2.mono hs1).trans hb3)⟩
        rw [hstep, if_pos he, List.map_append]
        exact ho2
      · (repeat with_reducible first | refine nck ?_ | refine cdT ?_ | refine cdF ?_ | refine gdY ?_ | refine gdFT ?_ | refine gdTF ?_ | refine gdU ?_ | refine gaY ?_ | refine gaFT ?_ | refine gaTF ?_ | refine pickT ?_ | refine pickF ?_ | refine bi_lss_t (by omega) ?_ | refine bi_lss_f (by omega) ?_ | refine bi_add64 (by omega) ?_ | refine bi_sub64 (by omega) ?_ | refine bi_eql_t (by omega) ?_ | refine bi_eql_f (by omega) ?_ | refine bi_neq_t (by omega) ?_ | refine bi_neq_f (by omega) ?_ | refine bi_gtr_t (by omega) ?_ | refine bi_gtr_f (by omega) ?_ | refine bi_leq_t (by omega) ?_ | refine bi_leq_f (by omega) ?_ | refine bi_geq_t (by omega) ?_ | refine bi_geq_f (by omega) ?_ | refine bi_xt0 ?_ | refine bi_xt1 ?_ | refine bi_xt2 ?_ | refine bi_xt3 ?_ | refine bi_T ?_ | refine bi_F ?_ | refine bi_not ?_ | refine bi_and ?_ | refine bi_or ?_ | refine bi_xor ?_ | refine bi_shr (by omega) (by decide) ?_ | refine bi_shl (by omega) (by decide) ?_ | refine bi_quo64 (by omega) ?_ | refine bi_rem64 (by omega) ?_ | refine bi_mul64 (by omega) ?_ | refine bi_neg ?_ | refine bi_un_xor32 ?_ | refine bi_add ?_ | refine bi_sub ?_ | refine bi_mul ?_ | refine bi_quo (by decide) ?_ | refine bi_rem (by decide) ?_)
        refine hJ1 _ _ ⟨rv, rfl, ?_, hfr, hb1⟩
        rw [hstep, if_neg he, List.append_nil]; exact hown
    · obtain ⟨rv', rfl, ho, hf, hb⟩ := hI
      dsimp only [List.headD_cons, List.tail_cons]
      (repeat with_reducible first | refine nck ?_ | refine cdT ?_ | refine cdF ?_ | refine gdY ?_ | refine gdFT ?_ | refine gdTF ?_ | refine gdU ?_ | refine gaY ?_ | refine gaFT ?_ | refine gaTF ?_ | refine pickT ?_ | refine pickF ?_ | refine bi_lss_t (by omega) ?_ | refine bi_lss_f (by omega) ?_ | refine bi_add64 (by omega) ?_ | refine bi_sub64 (by omega) ?_ | refine bi_eql_t (by omega) ?_ | refine bi_eql_f (by omega) ?_ | refine bi_neq_t (by omega) ?_ | refine bi_neq_f (by omega) ?_ | refine bi_gtr_t (by omega) ?_ | refine bi_gtr_f (by omega) ?_ | refine bi_leq_t (by omega) ?_ | refine bi_leq_f (by omega) ?_ | refine bi_geq_t (by omega) ?_ | refine bi_geq_f (by omega) ?_ | refine bi_xt0 ?_ | refine bi_xt1 ?_ | refine bi_xt2 ?_ | refine bi_xt3 ?_ | refine bi_T ?_ | refine bi_F ?_ | refine bi_not ?_ | refine bi_and ?_ | refine bi_or ?_ | refine bi_xor ?_ | refine bi_shr (by omega) (by decide) ?_ | refine bi_shl (by omega) (by decide) ?_ | refine bi_quo64 (by omega) ?_ | refine bi_rem64 (by omega) ?_ | refine bi_mul64 (by omega) ?_ | refine bi_neg ?_ | refine bi_un_xor32 ?_ | refine bi_add ?_ | refine bi_sub ?_ | refine bi_mul ?_ | refine bi_quo (by decide) ?_ | refine bi_rem (by decide) ?_)
      exact hJ _ _ _ ⟨i + 1, by omega, by simp, ho, hf, hb⟩ (by simp [intOf]; omega)
  · (repeat with_reducible first | refine nck ?_ | refine cdT ?_ | refine cdF ?_ | refine gdY ?_ | refine gdFT ?_ | refine gdTF ?_ | refine gdU ?_ | refine gaY ?_ | refine gaFT ?_ | refine gaTF ?_ | refine pickT ?_ | refine pickF ?_ | refine bi_lss_t (by omega) ?_ | refine bi_lss_f (by omega) ?_ | refine bi_add64 (by omega) ?_ | refine bi_sub64 (by omega) ?_ | refine bi_eql_t (by omega) ?_ | refine bi_eql_f (by omega) ?_ | refine bi_neq_t (by omega) ?_ | refine bi_neq_f (by omega) ?_ | refine bi_gtr_t (by omega) ?_ | refine bi_gtr_f (by omega) ?_ | refine bi_leq_t (by omega) ?_ | refine bi_leq_f (by omega) ?_ | refine bi_geq_t (by omega) ?_ | refine bi_geq_f (by omega) ?_ | refine bi_xt0 ?_ | refine bi_xt1 ?_ | refine bi_xt2 ?_ | refine bi_xt3 ?_ | refine bi_T ?_ | refine bi_F ?_ | refine bi_not ?_ | refine bi_and ?_ | refine bi_or ?_ | refine bi_xor ?_ | refine bi_shr (by omega) (by decide) ?_ | refine bi_shl (by omega) (by decide) ?_ | refine bi_quo64 (by omega) ?_ | refine bi_rem64 (by omega) ?_ | refine bi_mul64 (by omega) ?_ | refine bi_neg ?_ | refine bi_un_xor32 ?_ | refine bi_add ?_ | refine bi_sub ?_ | refine bi_mul ?_ | refine bi_quo (by decide) ?_ | refine bi_rem (by decide) ?_)
    have : i = L.length := by omega
    subst this
    rw [List.take_length] at hown
    exact ⟨hown, hfr, hb1⟩
end Go.Proofs.Ytmnaggdhkggjhaa.E
/- The reference's table: Look, raise. -/
namespace Go.Proofs.Ytmnaggdhkggjhaa.E
open Go Go.RowKit
set_option linter.unusedSimpArgs false
set_option linter.unusedVariables false

def cellsOf (o : Option OneM) : Array Value := match o with
  | none => zeroRep.cells (.slice none 0 0) (.slice none 0 0)
  | some x => x.R.cells x.p x.q
def LookR (L : List OneM) (F : List (Int × Int)) (id n : Int) (o : Int × Option OneM) : Prop :=
  (badP id n = true ∧ o = (1, none)) ∨ (badP id n = false ∧ n ≤ floorOf F id ∧ o = (12, none)) ∨
  (badP id n = false ∧ ¬ n ≤ floorOf F id ∧ ((∃ x ∈ L, x.cl = id ∧ x.no = n ∧ o = (0, some x)) ∨ ((∀ x ∈ L, ¬ (x.cl = id ∧ x.no = n)) ∧ o = (7, none))))
theorem refLook_spec {hu : Nat} {c : Nat → Nat} {w : World} {g : Nat} {vL vF : Value} {L : List OneM} {F : List (Int × Int)} (id n : Int) (h : RefAt hu c w g vL vF L F) (hl : F.length ≤ 1000000) (hlL : L.length ≤ 100000) :
    CallP Try.prog 15 #[.pointer (some ⟨g, 0, none⟩), .int .i64 id, .int .i64 n] (fun r w' => ∃ o, LookR L F id n o ∧ r = .tuple #[.agg (cellsOf o.2), .int .i64 o.1] ∧ Below w.heap.size w w') w := by
  refine ⟨S15.calls _ _ _ _ _ ?_⟩
  unfold S15
  refine al z27 ?_
  have hR : Blk (w.alloc (.cells (Value.agg (zeroRep.cells (.slice none 0 0) (.slice none 0 0))).cells 27)) w.heap.size 27 (zeroRep.cells (.slice none 0 0) (.slice none 0 0)) := Blk.new w 27 _
  have ha := (Below.refl w.heap.size w).alloc (Nat.le_refl _) (.cells (Value.agg (zeroRep.cells (.slice none 0 0) (.slice none 0 0))).cells 27)
  generalize w.alloc (.cells (Value.agg (zeroRep.cells (.slice none 0 0) (.slice none 0 0))).cells 27) = w1 at *
  have h1 := h.below ha
  have tell : ∀ {w' : World}, Below w.heap.size w w' → Below w.heap.size w (w'.setRow w.heap.size (zeroRep.cells (.slice none 0 0) (.slice none 0 0))) := fun hb => below_setRow hb (Nat.le_refl _) _
  refine (refBad_spec id n w1).mono ?_
  rintro _ _ ⟨rfl, rfl⟩
  cases hbad : badP id n with
  | true =>
    (repeat with_reducible first | refine nck ?_ | refine cdT ?_ | refine cdF ?_ | refine gdY ?_ | refine gdFT ?_ | refine gdTF ?_ | refine gdU ?_ | refine gaY ?_ | refine gaFT ?_ | refine gaTF ?_ | refine pickT ?_ | refine pickF ?_ | refine bi_lss_t (by omega) ?_ | refine bi_lss_f (by omega) ?_ | refine bi_add64 (by omega) ?_ | refine bi_sub64 (by omega) ?_ | refine bi_eql_t (by omega) ?_ | refine bi_eql_f (by omega) ?_ | refine bi_neq_t (by omega) ?_ | refine bi_neq_f (by omega) ?_ | refine bi_gtr_t (by omega) ?_ | refine bi_gtr_f (by omega) ?_ | refine bi_leq_t (by omega) ?_ | refine bi_leq_f (by omega) ?_ | refine bi_geq_t (by omega) ?_ | refine bi_geq_f (by omega) ?_ | refine bi_xt0 ?_ | refine bi_xt1 ?_ | refine bi_xt2 ?_ | refine bi_xt3 ?_ | refine bi_T ?_ | refine bi_F ?_ | refine bi_not ?_ | refine bi_and ?_ | refine bi_or ?_ | refine bi_xor ?_ | refine bi_shr (by omega) (by decide) ?_ | refine bi_shl (by omega) (by decide) ?_ | refine bi_quo64 (by omega) ?_ | refine bi_rem64 (by omega) ?_ | refine bi_mul64 (by omega) ?_ | refine bi_neg ?_ | refine bi_un_xor32 ?_ | refine bi_add ?_ | refine bi_sub ?_ | refine bi_mul ?_ | refine bi_quo (by decide) ?_ | refine bi_rem (by decide) ?_)
    refine bd (cells := zeroRep.cells (.slice none 0 0) (.slice none 0 0)) (by kernel_rfl) ?_
    refine stA hR (by exact sz27) (by rfl) (cellsR_one _ _ _ rfl rfl) ?_
    refine retA agg27 (hR.row _) (by exact sz27) ?_
    exact ⟨(1, none), .inl ⟨hbad, rfl⟩, rfl, tell ha⟩
  | false =>
    (repeat with_reducible first | refine nck ?_ | refine cdT ?_ | refine cdF ?_ | refine gdY ?_ | refine gdFT ?_ | refine gdTF ?_ | refine gdU ?_ | refine gaY ?_ | refine gaFT ?_ | refine gaTF ?_ | refine pickT ?_ | refine pickF ?_ | refine bi_lss_t (by omega) ?_ | refine bi_lss_f (by omega) ?_ | refine bi_add64 (by omega) ?_ | refine bi_sub64 (by omega) ?_ | refine bi_eql_t (by omega) ?_ | refine bi_eql_f (by omega) ?_ | refine bi_neq_t (by omega) ?_ | refine bi_neq_f (by omega) ?_ | refine bi_gtr_t (by omega) ?_ | refine bi_gtr_f (by omega) ?_ | refine bi_leq_t (by omega) ?_ | refine bi_leq_f (by omega) ?_ | refine bi_geq_t (by omega) ?_ | refine bi_geq_f (by omega) ?_ | refine bi_xt0 ?_ | refine bi_xt1 ?_ | refine bi_xt2 ?_ | refine bi_xt3 ?_ | refine bi_T ?_ | refine bi_F ?_ | refine bi_not ?_ | refine bi_and ?_ | refine bi_or ?_ | refine bi_xor ?_ | refine bi_shr (by omega) (by decide) ?_ | refine bi_shl (by omega) (by decide) ?_ | refine bi_quo64 (by omega) ?_ | refine bi_rem64 (by omega) ?_ | refine bi_mul64 (by omega) ?_ | refine bi_neg ?_ | refine bi_un_xor32 ?_ | refine bi_add ?_ | refine bi_sub ?_ | refine bi_mul ?_ | refine bi_quo (by decide) ?_ | refine bi_rem (by decide) ?_)
    refine (refFloor_spec id h1 hl).mono ?_
    rintro _ _ ⟨rfl, rfl⟩
    refine bi_leq_c (fun hfl => ?_) (fun hfl => ?_)
    · (repeat with_reducible first | refine nck ?_ | refine cdT ?_ | refine cdF ?_ | refine gdY ?_ | refine gdFT ?_ | refine gdTF ?_ | refine gdU ?_ | refine gaY ?_ | refine gaFT ?_ | refine gaTF ?_ | refine pickT ?_ | refine pickF ?_ | refine bi_lss_t (by omega) ?_ | refine bi_lss_f (by omega) ?_ | refine bi_add64 (by omega) ?_ | refine bi_sub64 (by omega) ?_ | refine bi_eql_t (by omega) ?_ | refine bi_eql_f (by omega) ?_ | refine bi_neq_t (by omega) ?_ | refine bi_neq_f (by omega) ?_ | refine bi_gtr_t (by omega) ?_ | refine bi_gtr_f (by omega) ?_ | refine bi_leq_t (by omega) ?_ | refine bi_leq_f (by omega) ?_ | refine bi_geq_t (by omega) ?_ | refine bi_geq_f (by omega) ?_ | refine bi_xt0 ?_ | refine bi_xt1 ?_ | refine bi_xt2 ?_ | refine bi_xt3 ?_ | refine bi_T ?_ | refine bi_F ?_ | refine bi_not ?_ | refine bi_and ?_ | refine bi_or ?_ | refine bi_xor ?_ | refine bi_shr (by omega) (by decide) ?_ | refine bi_shl (by omega) (by decide) ?_ | refine bi_quo64 (by omega) ?_ | refine bi_rem64 (by omega) ?_ | refine bi_mul64 (by omega) ?_ | refine bi_neg ?_ | refine bi_un_xor32 ?_ | refine bi_add ?_ | refine bi_sub ?_ | refine bi_mul ?_ | refine bi_quo (by decide) ?_ | refine bi_rem (by decide) ?_)
      refine bd (cells := zeroRep.cells (.slice none 0 0) (.slice none 0 0)) (by kernel_rfl) ?_
      refine stA hR (by exact sz27) (by rfl) (cellsR_one _ _ _ rfl rfl) ?_
      refine retA agg27 (hR.row _) (by exact sz27) ?_
      exact ⟨(12, none), .inr (.inl ⟨hbad, hfl, rfl⟩), rfl, tell ha⟩
    (repeat with_reducible first | refine nck ?_ | refine cdT ?_ | refine cdF ?_ | refine gdY ?_ | refine gdFT ?_ | refine gdTF ?_ | refine gdU ?_ | refine gaY ?_ | refine gaFT ?_ | refine gaTF ?_ | refine pickT ?_ | refine pickF ?_ | refine bi_lss_t (by omega) ?_ | refine bi_lss_f (by omega) ?_ | refine bi_add64 (by omega) ?_ | refine bi_sub64 (by omega) ?_ | refine bi_eql_t (by omega) ?_ | refine bi_eql_f (by omega) ?_ | refine bi_neq_t (by omega) ?_ | refine bi_neq_f (by omega) ?_ | refine bi_gtr_t (by omega) ?_ | refine bi_gtr_f (by omega) ?_ | refine bi_leq_t (by omega) ?_ | refine bi_leq_f (by omega) ?_ | refine bi_geq_t (by omega) ?_ | refine bi_geq_f (by omega) ?_ | refine bi_xt0 ?_ | refine bi_xt1 ?_ | refine bi_xt2 ?_ | refine bi_xt3 ?_ | refine bi_T ?_ | refine bi_F ?_ | refine bi_not ?_ | refine bi_and ?_ | refine bi_or ?_ | refine bi_xor ?_ | refine bi_shr (by omega) (by decide) ?_ | refine bi_shl (by omega) (by decide) ?_ | refine bi_quo64 (by omega) ?_ | refine bi_rem64 (by omega) ?_ | refine bi_mul64 (by omega) ?_ | refine bi_neg ?_ | refine bi_un_xor32 ?_ | refine bi_add ?_ | refine bi_sub ?_ | refine bi_mul ?_ | refine bi_quo (by decide) ?_ | refine bi_rem (by decide) ?_)
    have hL := h1.rowL
    have c0 : w1.cell? ⟨g, 0, none⟩ = some vL := h1.blk.cell 0
    obtain ⟨A, cL, rfl, _, _⟩ := hL.slice
    refine LoopP.inv1 (fun iv w' => ∃ i : Nat, i ≤ L.length ∧ iv = .int .i64 i ∧ (∀ x ∈ L.take i, ¬ (x.cl = id ∧ x.no = n)) ∧ w1 = w') (fun iv _ => L.length - (intOf iv).toNat) ⟨0, by omega, rfl, by simp, rfl⟩ ?_
    rintro _ _ ⟨i, hi, rfl, hall, rfl⟩ J hJ
    dsimp only [List.headD_cons, List.tail_cons]
    (repeat with_reducible first | refine fd m0 (by decide) ?_ | refine ld one42 c0 ?_ | refine nck ?_ | refine cdT ?_ | refine cdF ?_ | refine gdY ?_ | refine gdFT ?_ | refine gdTF ?_ | refine gdU ?_ | refine gaY ?_ | refine gaFT ?_ | refine gaTF ?_ | refine pickT ?_ | refine pickF ?_ | refine bi_lss_t (by omega) ?_ | refine bi_lss_f (by omega) ?_ | refine bi_add64 (by omega) ?_ | refine bi_sub64 (by omega) ?_ | refine bi_eql_t (by omega) ?_ | refine bi_eql_f (by omega) ?_ | refine bi_neq_t (by omega) ?_ | refine bi_neq_f (by omega) ?_ | refine bi_gtr_t (by omega) ?_ | refine bi_gtr_f (by omega) ?_ | refine bi_leq_t (by omega) ?_ | refine bi_leq_f (by omega) ?_ | refine bi_geq_t (by omega) ?_ | refine bi_geq_f (by omega) ?_ | refine bi_xt0 ?_ | refine bi_xt1 ?_ | refine bi_xt2 ?_ | refine bi_xt3 ?_ | refine bi_T ?_ | refine bi_F ?_ | refine bi_not ?_ | refine bi_and ?_ | refine bi_or ?_ | refine bi_xor ?_ | refine bi_shr (by omega) (by decide) ?_ | refine bi_shl (by omega) (by decide) ?_ | refine bi_quo64 (by omega) ?_ | refine bi_rem64 (by omega) ?_ | refine bi_mul64 (by omega) ?_ | refine bi_neg ?_ | refine bi_un_xor32 ?_ | refine bi_add ?_ | refine bi_sub ?_ | refine bi_mul ?_ | refine bi_quo (by decide) ?_ | refine bi_rem (by decide) ?_)
    refine ln und42 ?_
    refine bi_lss_c (fun hlt => ?_) (fun hlt => ?_)
    · have hi' : i < L.length := by omega
      obtain ⟨gL, cL', he, hcell⟩ := rowAt oneF_len hL i hi' (by decide)
      cases he
      have d0 : w1.cell? ⟨gL, i * 7 + 0, none⟩ = some (.int .i64 L[i].cl) := hcell 0 _ rfl
      have d1 : w1.cell? ⟨gL, i * 7 + 1, none⟩ = some (.int .i64 L[i].no) := hcell 1 _ rfl
      have hE := h1.el _ (List.getElem_mem hi')
      have next : (¬ (L[i].cl = id ∧ L[i].no = n)) → ∀ x ∈ L.take (i + 1), ¬ (x.cl = id ∧ x.no = n) := fun hn x hx => by
        rw [List.take_succ_eq_append_getElem hi'] at hx
        rcases List.mem_append.1 hx with hx | hx
        · exact hall x hx
        · simp only [List.mem_cons, List.not_mem_nil, or_false] at hx
          subst hx; exact hn
      (repeat with_reducible first | refine fd m0 (by decide) ?_ | refine ld one42 c0 ?_ | refine ixG und42 sz73 i hi' ?_ | refine fdG o0 (by decide) ?_ | refine ld one3 d0 ?_ | refine nck ?_ | refine cdT ?_ | refine cdF ?_ | refine gdY ?_ | refine gdFT ?_ | refine gdTF ?_ | refine gdU ?_ | refine gaY ?_ | refine gaFT ?_ | refine gaTF ?_ | refine pickT ?_ | refine pickF ?_ | refine bi_lss_t (by omega) ?_ | refine bi_lss_f (by omega) ?_ | refine bi_add64 (by omega) ?_ | refine bi_sub64 (by omega) ?_ | refine bi_eql_t (by omega) ?_ | refine bi_eql_f (by omega) ?_ | refine bi_neq_t (by omega) ?_ | refine bi_neq_f (by omega) ?_ | refine bi_gtr_t (by omega) ?_ | refine bi_gtr_f (by omega) ?_ | refine bi_leq_t (by omega) ?_ | refine bi_leq_f (by omega) ?_ | refine bi_geq_t (by omega) ?_ | refine bi_geq_f (by omega) ?_ | refine bi_xt0 ?_ | refine bi_xt1 ?_ | refine bi_xt2 ?_ | refine bi_xt3 ?_ | refine bi_T ?_ | refine bi_F ?_ | refine bi_not ?_ | refine bi_and ?_ | refine bi_or ?_ | refine bi_xor ?_ | refine bi_shr (by omega) (by decide) ?_ | refine bi_shl (by omega) (by decide) ?_ | refine bi_quo64 (by omega) ?_ | refine bi_rem64 (by omega) ?_ | refine bi_mul64 (by omega) ?_ | refine bi_neg ?_ | refine bi_un_xor32 ?_ | refine bi_add ?_ | refine bi_sub ?_ | refine bi_mul ?_ | refine bi_quo (by decide) ?_ | refine bi_rem (by decide) ?_)
      refine bi_eql_c (fun he => ?_) (fun he => ?_)
      · (repeat with_reducible first | refine fd m0 (by decide) ?_ | refine ld one42 c0 ?_ | refine ixG und42 sz73 i hi' ?_ | refine fdG o1 (by decide) ?_ | refine ld one3 d1 ?_ | refine nck ?_ | refine cdT ?_ | refine cdF ?_ | refine gdY ?_ | refine gdFT ?_ | refine gdTF ?_ | refine gdU ?_ | refine gaY ?_ | refine gaFT ?_ | refine gaTF ?_ | refine pickT ?_ | refine pickF ?_ | refine bi_lss_t (by omega) ?_ | refine bi_lss_f (by omega) ?_ | refine bi_add64 (by omega) ?_ | refine bi_sub64 (by omega) ?_ | refine bi_eql_t (by omega) ?_ | refine bi_eql_f (by omega) ?_ | refine bi_neq_t (by omega) ?_ | refine bi_neq_f (by omega) ?_ | refine bi_gtr_t (by omega) ?_ | refine bi_gtr_f (by omega) ?_ | refine bi_leq_t (by omega) ?_ | refine bi_leq_f (by omega) ?_ | refine bi_geq_t (by omega) ?_ | refine bi_geq_f (by omega) ?_ | refine bi_xt0 ?_ | refine bi_xt1 ?_ | refine bi_xt2 ?_ | refine bi_xt3 ?_ | refine bi_T ?_ | refine bi_F ?_ | refine bi_not ?_ | refine bi_and ?_ | refine bi_or ?_ | refine bi_xor ?_ | refine bi_shr (by omega) (by decide) ?_ | refine bi_shl (by omega) (by decide) ?_ | refine bi_quo64 (by omega) ?_ | refine bi_rem64 (by omega) ?_ | refine bi_mul64 (by omega) ?_ | refine bi_neg ?_ | refine bi_un_xor32 ?_ | refine bi_add ?_ | refine bi_sub ?_ | refine bi_mul ?_ | refine bi_quo (by decide) ?_ | refine bi_rem (by decide) ?_)
        refine bi_eql_c (fun hn => ?_) (fun hn => ?_)
        · (repeat with_reducible first | refine fd m0 (by decide) ?_ | refine ld one42 c0 ?_ | refine ixG und42 sz73 i hi' ?_ | refine fdG o2 (by decide) ?_ | refine nck ?_ | refine cdT ?_ | refine cdF ?_ | refine gdY ?_ | refine gdFT ?_ | refine gdTF ?_ | refine gdU ?_ | refine gaY ?_ | refine gaFT ?_ | refine gaTF ?_ | refine pickT ?_ | refine pickF ?_ | refine bi_lss_t (by omega) ?_ | refine bi_lss_f (by omega) ?_ | refine bi_add64 (by omega) ?_ | refine bi_sub64 (by omega) ?_ | refine bi_eql_t (by omega) ?_ | refine bi_eql_f (by omega) ?_ | refine bi_neq_t (by omega) ?_ | refine bi_neq_f (by omega) ?_ | refine bi_gtr_t (by omega) ?_ | refine bi_gtr_f (by omega) ?_ | refine bi_leq_t (by omega) ?_ | refine bi_leq_f (by omega) ?_ | refine bi_geq_t (by omega) ?_ | refine bi_geq_f (by omega) ?_ | refine bi_xt0 ?_ | refine bi_xt1 ?_ | refine bi_xt2 ?_ | refine bi_xt3 ?_ | refine bi_T ?_ | refine bi_F ?_ | refine bi_not ?_ | refine bi_and ?_ | refine bi_or ?_ | refine bi_xor ?_ | refine bi_shr (by omega) (by decide) ?_ | refine bi_shl (by omega) (by decide) ?_ | refine bi_quo64 (by omega) ?_ | refine bi_rem64 (by omega) ?_ | refine bi_mul64 (by omega) ?_ | refine bi_neg ?_ | refine bi_un_xor32 ?_ | refine bi_add ?_ | refine bi_sub ?_ | refine bi_mul ?_ | refine bi_quo (by decide) ?_ | refine bi_rem (by decide) ?_)
          refine ldR (us := (L[i].R.cells L[i].p L[i].q).toList) agg27 (fun j u hu => ?_) (by rw [sz27]; rfl) ?_
          · rw [add0, Nat.add_assoc]
            exact hcell (2 + j) u (by rw [← hu, show 2 + j = j + 2 from by omega]; rfl)
          rw [Array.toArray_toList]
          refine stA hR (by exact sz27) (by rfl) (cellsR_one _ _ _ hE.one hE.oneq) ?_
          refine retA agg27 (hR.row _) (by exact sz27) ?_
          exact ⟨(0, some L[i]), .inr (.inr ⟨hbad, hfl, .inl ⟨L[i], List.getElem_mem hi', he, hn, rfl⟩⟩), rfl, below_setRow ha (Nat.le_refl _) _⟩
        · (repeat with_reducible first | refine nck ?_ | refine cdT ?_ | refine cdF ?_ | refine gdY ?_ | refine gdFT ?_ | refine gdTF ?_ | refine gdU ?_ | refine gaY ?_ | refine gaFT ?_ | refine gaTF ?_ | refine pickT ?_ | refine pickF ?_ | refine bi_lss_t (by omega) ?_ | refine bi_lss_f (by omega) ?_ | refine bi_add64 (by omega) ?_ | refine bi_sub64 (by omega) ?_ | refine bi_eql_t (by omega) ?_ | refine bi_eql_f (by omega) ?_ | refine bi_neq_t (by omega) ?_ | refine bi_neq_f (by omega) ?_ | refine bi_gtr_t (by omega) ?_ | refine bi_gtr_f (by omega) ?_ | refine bi_leq_t (by omega) ?_ | refine bi_leq_f (by omega) ?_ | refine bi_geq_t (by omega) ?_ | refine bi_geq_f (by omega) ?_ | refine bi_xt0 ?_ | refine bi_xt1 ?_ | refine bi_xt2 ?_ | refine bi_xt3 ?_ | refine bi_T ?_ | refine bi_F ?_ | refine bi_not ?_ | refine bi_and ?_ | refine bi_or ?_ | refine bi_xor ?_ | refine bi_shr (by omega) (by decide) ?_ | refine bi_shl (by omega) (by decide) ?_ | refine bi_quo64 (by omega) ?_ | refine bi_rem64 (by omega) ?_ | refine bi_mul64 (by omega) ?_ | refine bi_neg ?_ | refine bi_un_xor32 ?_ | refine bi_add ?_ | refine bi_sub ?_ | refine bi_mul ?_ | refine bi_quo (by decide) ?_ | refine bi_rem (by decide) ?_)
          exact hJ _ _ ⟨i + 1, by omega, by simp, next (fun e => hn e.2), rfl⟩ (by simp [intOf]; omega)
      · (repeat with_reducible first | refine nck ?_ | refine cdT ?_ | refine cdF ?_ | refine gdY ?_ | refine gdFT ?_ | refine gdTF ?_ | refine gdU ?_ | refine gaY ?_ | refine gaFT ?_ | refine gaTF ?_ | refine pickT ?_ | refine pickF ?_ | refine bi_lss_t (by omega) ?_ | refine bi_lss_f (by omega) ?_ | refine bi_add64 (by omega) ?_ | refine bi_sub64 (by omega) ?_ | refine bi_eql_t (by omega) ?_ | refine bi_eql_f (by omega) ?_ | refine bi_neq_t (by omega) ?_ | refine bi_neq_f (by omega) ?_ | refine bi_gtr_t (by omega) ?_ | refine bi_gtr_f (by omega) ?_ | refine bi_leq_t (by omega) ?_ | refine bi_leq_f (by omega) ?_ | refine bi_geq_t (by omega) ?_ | refine bi_geq_f (by omega) ?_ | refine bi_xt0 ?_ | refine bi_xt1 ?_ | refine bi_xt2 ?_ | refine bi_xt3 ?_ | refine bi_T ?_ | refine bi_F ?_ | refine bi_not ?_ | refine bi_and ?_ | refine bi_or ?_ | refine bi_xor ?_ | refine bi_shr (by omega) (by decide) ?_ | refine bi_shl (by omega) (by decide) ?_ | refine bi_quo64 (by omega) ?_ | refine bi_rem64 (by omega) ?_ | refine bi_mul64 (by omega) ?_ | refine bi_neg ?_ | refine bi_un_xor32 ?_ | refine bi_add ?_ | refine bi_sub ?_ | refine bi_mul ?_ | refine bi_quo (by decide) ?_ | refine bi_rem (by decide) ?_)
        exact hJ _ _ ⟨i + 1, by omega, by simp, next (fun e => he e.1), rfl⟩ (by simp [intOf]; omega)
    · (repeat with_reducible first | refine nck ?_ | refine cdT ?_ | refine cdF ?_ | refine gdY ?_ | refine gdFT ?_ | refine gdTF ?_ | refine gdU ?_ | refine gaY ?_ | refine gaFT ?_ | refine gaTF ?_ | refine pickT ?_ | refine pickF ?_ | refine bi_lss_t (by omega) ?_ | refine bi_lss_f (by omega) ?_ | refine bi_add64 (by omega) ?_ | refine bi_sub64 (by omega) ?_ | refine bi_eql_t (by omega) ?_ | refine bi_eql_f (by omega) ?_ | refine bi_neq_t (by omega) ?_ | refine bi_neq_f (by omega) ?_ | refine bi_gtr_t (by omega) ?_ | refine bi_gtr_f (by omega) ?_ | refine bi_leq_t (by omega) ?_ | refine bi_leq_f (by omega) ?_ | refine bi_geq_t (by omega) ?_ | refine bi_geq_f (by omega) ?_ | refine bi_xt0 ?_ | refine bi_xt1 ?_ | refine bi_xt2 ?_ | refine bi_xt3 ?_ | refine bi_T ?_ | refine bi_F ?_ | refine bi_not ?_ | refine bi_and ?_ | refine bi_or ?_ | refine bi_xor ?_ | refine bi_shr (by omega) (by decide) ?_ | refine bi_shl (by omega) (by decide) ?_ | refine bi_quo64 (by omega) ?_ | refine bi_rem64 (by omega) ?_ | refine bi_mul64 (by omega) ?_ | refine bi_neg ?_ | refine bi_un_xor32 ?_ | refine bi_add ?_ | refine bi_sub ?_ | refine bi_mul ?_ | refine bi_quo (by decide) ?_ | refine bi_rem (by decide) ?_)
      have : i = L.length := by omega
      subst this
      rw [List.take_length] at hall
      refine bd (cells := zeroRep.cells (.slice none 0 0) (.slice none 0 0)) (by kernel_rfl) ?_
      refine stA hR (by exact sz27) (by rfl) (cellsR_one _ _ _ rfl rfl) ?_
      refine retA agg27 (hR.row _) (by exact sz27) ?_
      exact ⟨(7, none), .inr (.inr ⟨hbad, hfl, .inr ⟨hall, rfl⟩⟩), rfl, tell ha⟩
theorem ElAt.re' {c c' : Nat → Nat} {w : World} {x : OneM} (h : ElAt c w x) (hc : ∀ k, x.p.ownBlock = some k → c' k = c k) : ElAt c' w x := ⟨h.own, fun k hk => by rw [hc k hk]; exact h.hue k hk, h.ok, h.len, h.rows⟩
/-! ### cuts and rows -/
theorem OwnR.cutFrom {s : Nat} {e : TypeId} {w : World} {A : Option Addr} {c : Nat} {α : Type} {f : α → List Value} {l : List α} (hf : ∀ x, (f x).length = s) (hs : 0 < s) (h : OwnR s e w (.slice A l.length c) l.length (l.flatMap f)) (j : Nat) (hj : j ≤ l.length) :
    rRow s (fun _ us x => us = f x) w [sliced A j l.length c s] (l.drop j) := by
  obtain ⟨A', c', he, hc, hm⟩ := h.slice
  cases he
  refine ⟨_, _, by rw [List.length_drop]; rfl, by rw [List.length_drop]; omega, by omega, fun i x hx => ?_⟩
  have hi : j + i < l.length := by
    have := (List.getElem?_eq_some_iff.1 hx).1
    rw [List.length_drop] at this; omega
  obtain ⟨g, c2, he, hcell⟩ := rowAt hf h (j + i) hi hs
  cases he
  rw [List.getElem?_drop, List.getElem?_eq_getElem hi] at hx
  cases hx
  refine ⟨⟨g, j * s, none⟩, f l[j + i], ?_, hf _, fun k u hu => ?_, rfl⟩
  · rw [if_neg (by omega), Option.map_some, add0, Nat.zero_add]
  · rw [add0, ← Nat.add_assoc, ← Nat.add_mul]
    exact hcell k u hu
theorem apOne {P : Program} {K : Value → World → Prop} {w : World} {t ty e : TypeId} {cs : Array Bool} {z : Value} {size bytes : Nat} (ht : P.underlying t = some (.slice e)) (hinfo : (P.info? e).map (fun i => (i.zero, i.size, i.bytes)) = some (some z, size, bytes)) (hz : z.cells.size = size) (hsz : 0 < size)
    {v : Value} {xs : List Value} {n : Nat} (hown : w.ownsRow 0 e size v n xs) {us : List Value} (hl : us.length = size) (h1 : ∀ u ∈ us, u.oneCell' = true) (h63 : n + 1 ≤ 9223372036854775807) (hbytes : (n + 1) * bytes ≤ 140737488355328)
    (hb : (Instr.buildSlice t 1 #[(0, .agg us.toArray)]).run P w = .ok (.slice (some ⟨w.heap.size, 0, none⟩) 1 1) (w.alloc (.cells us.toArray e)))
    (k : ∀ v' w', w'.ownsRow 0 e size v' (n + 1) (xs ++ us) → (v'.ownBlock = v.ownBlock ∨ ∃ b, v'.ownBlock = some b ∧ w.heap.size ≤ b) → Turns (fun j => v.ownBlock = some j) w w' → K v' w') :
    LiftP P (Instr.buildSlice t 1 #[(0, .agg us.toArray)]) (fun u w => NextP P (builtin .append #[t, t] ty cs #[v, u]) K w) w := by
  refine lift hb ?_
  have hB := Blk.new w e us.toArray
  have ha := (Below.refl w.heap.size w).alloc (Nat.le_refl _) (.cells us.toArray e)
  have hs := ha.size
  refine apGb ht hinfo hz hsz (ownsRow_turns hown (Turns.of_below (F := fun _ => False) ha) (fun _ _ h => h)) (a := ⟨w.heap.size, 0, none⟩) (m := 1) (c := 1) (news := us) (by rw [hl, Nat.one_mul]) (fun j u hu => by
    rw [add0, Nat.zero_add, hB.cell j]
    simpa using hu) h1 h63 hbytes ?_
  intro v' w' ho hbl hT
  refine k v' w' ho (hbl.imp id fun h => ⟨_, h, hs⟩) ((Turns.of_below ha).trans (hT.mono fun j _ e => .inl e))
theorem Fresh.one {B : Nat} {w : World} {v v' : Value} (h : Fresh B v) (hB : B ≤ w.heap.size) (hbl : v'.ownBlock = v.ownBlock ∨ ∃ b, v'.ownBlock = some b ∧ w.heap.size ≤ b) : Fresh B v' := fun k hk => by
  rcases hbl with e | ⟨b, e, hb⟩
  · exact h k (by rw [← e]; exact hk)
  · rw [e] at hk; cases hk; omega
theorem Turns.fresh {B : Nat} {w w' : World} {v : Value} (hT : Turns (fun j => v.ownBlock = some j) w w') (h : Fresh B v) (hB : B ≤ w.heap.size) : Below B w w' := hT.below hB fun k hk e => by have := h k e; omega
/-! ### raise -/
def putF (id n : Int) : List (Int × Int) → List (Int × Int)
  | [] => [(id, n)]
  | (a, m) :: r => if a < id then (a, m) :: putF id n r else if a = id then (id, n) :: r else (id, n) :: (a, m) :: r
theorem putF_split (id n : Int) : ∀ (F : List (Int × Int)) (i : Nat) (hi : i ≤ F.length), (∀ p ∈ F.take i, p.1 < id) → (∀ h : i < F.length, ¬ F[i].1 < id) →
    F.take i ++ (id, n) :: F.drop (if h : i < F.length then (if F[i].1 = id then i + 1 else i) else i) = putF id n F
  | [], i, hi, _, _ => by
    have : i = 0 := by simpa using hi
    subst this; rfl
  | (a, m) :: r, 0, _, _, h2 => by
    have h2 : ¬ a < id := h2 (by simp)
    rw [putF, if_neg h2]
    simp only [List.length_cons, Nat.zero_lt_succ, dite_true, List.getElem_cons_zero, List.take_zero, List.nil_append]
    split <;> rfl
  | (a, m) :: r, i + 1, hi, h1, h2 => by
    have ha : a < id := h1 (a, m) (by simp)
    rw [putF, if_pos ha, ← putF_split id n r i (by simpa using hi) (fun p hp => h1 p (by simp [hp])) (fun h => h2 (Nat.succ_lt_succ h))]
    simp only [List.take_succ_cons, List.cons_append, List.length_cons, Nat.add_lt_add_iff_right, List.getElem_cons_succ]
    congr 3
    split
    · split <;> simp
    · simp
def raiseF (F : List (Int × Int)) (id n : Int) : List (Int × Int) := if floorOf F id < n then putF id n F else F
def raiseL (L : List OneM) (id fl : Int) : List OneM := L.filter fun x => decide (x.cl ≠ id) || decide (fl < x.no)
end Go.Proofs.Ytmnaggdhkggjhaa.E
/- The reference's raise: walked. -/
namespace Go.Proofs.Ytmnaggdhkggjhaa.E
open Go Go.RowKit
set_option linter.unusedSimpArgs false
set_option linter.unusedVariables false

theorem flF_one (x : Int × Int) : ∀ u ∈ flF x, u.oneCell' = true := by
  intro u hu
  simp only [flF, List.mem_cons, List.not_mem_nil, or_false] at hu
  rcases hu with rfl | rfl <;> rfl
theorem oneF_one {c : Nat → Nat} {w : World} {x : OneM} (h : ElAt c w x) : ∀ u ∈ oneF x, u.oneCell' = true := by
  intro u hu
  simp only [oneF, List.mem_cons, List.not_mem_nil, or_false] at hu
  rcases hu with rfl | rfl | rfl | rfl | rfl | rfl | rfl <;> first | rfl | exact h.one | exact h.oneq
theorem set45a (a b u : Value) : (#[a, b] : Array Value).setIfInBounds 0 u = #[u, b] := rfl
theorem set45b (a b u : Value) : (#[a, b] : Array Value).setIfInBounds 1 u = #[a, u] := rfl
/-- The floors raised; the answers as they were. -/
structure MidAt (hu : Nat) (c : Nat → Nat) (w0 : World) (w : World) (g : Nat) (vL vF : Value) (L : List OneM) (F : List (Int × Int)) : Prop where
  ref : RefAt hu (col c w0.heap.size hu) w g vL vF L F
  turn : Turns (fun k => k = g) w0 w
theorem raiseF_step {hu : Nat} {c : Nat → Nat} {w : World} {g : Nat} {vL vF : Value} {L : List OneM} {F : List (Int × Int)} (id n : Int) (h : RefAt hu c w g vL vF L F) (hl : F.length ≤ 100000) {K : World → Prop}
    (k : ∀ vF' w', MidAt hu c w w' g vL vF' L (putF id n F) → K w') :
      LoopP (fun J_1 vs_1 w =>
        NextP Try.prog (nilChk (.pointer (some ⟨g, 0, none⟩))) (fun v17 w =>
        LiftP Try.prog (Instr.fieldAt 45 v17 1) (fun v18 w =>
        LiftP Try.prog (Instr.loadAt 43 v18) (fun v19 w =>
        NextP Try.prog (builtin Go.Builtin.len #[43] 3 #[false] #[v19]) (fun v20 w =>
        LiftP Try.prog (binS Go.BinOp.lss 3 (Go.Operand.tmp 15) (Go.Operand.tmp 20) (vs_1.tail.headD undef) v20) (fun v21 w =>
        GuardP v21 true (fun K w => K (.pointer (some ⟨g, 0, none⟩)) w) (fun v23 w =>
        GuardP v21 true (fun K w => NextP Try.prog (nilChk v23) K w) (fun v24 w =>
        GuardP v21 true (fun K w => LiftP Try.prog (Instr.fieldAt 45 v24 1) K w) (fun v25 w =>
        GuardP v21 true (fun K w => LiftP Try.prog (Instr.loadAt 43 v25) K w) (fun v26 w =>
        GuardP v21 true (fun K w => K (vs_1.tail.headD undef) w) (fun v27 w =>
        GuardP v21 true (fun K w => LiftP Try.prog (Instr.indexAt 43 v26 v27) K w) (fun v28 w =>
        GuardP v21 true (fun K w => LiftP Try.prog (Instr.fieldAt 84 v28 0) K w) (fun v29 w =>
        GuardP v21 true (fun K w => LiftP Try.prog (Instr.loadAt 3 v29) K w) (fun v30 w =>
        GuardP v21 true (fun K w => K (.int .i64 id) w) (fun v31 w =>
        GuardP v21 true (fun K w => LiftP Try.prog (binS Go.BinOp.lss 3 (Go.Operand.tmp 30) (Go.Operand.tmp 31) v30 v31) K w) (fun v32 w =>
        PickP v21 v32 (Go.Value.bool false) (fun v33 w =>
        CondP v33 (fun w =>
          NextP Try.prog (nilChk (.pointer (some ⟨g, 0, none⟩))) (fun v36 w =>
        LiftP Try.prog (Instr.fieldAt 45 v36 1) (fun v37 w =>
        LiftP Try.prog (Instr.loadAt 43 v37) (fun v38 w =>
        LiftP Try.prog (Instr.indexAt 43 v38 (vs_1.tail.headD undef)) (fun v40 w =>
        LiftP Try.prog (Instr.loadAt 84 v40) (fun v41 w =>
        LiftP Try.prog (Instr.buildSlice 43 1 #[(0, v41)]) (fun v42 w =>
        NextP Try.prog (builtin Go.Builtin.append #[43, 43] 43 #[false, false] #[(vs_1.headD undef), v42]) (fun v43 w =>
        LiftP Try.prog (binS Go.BinOp.add 3 (Go.Operand.tmp 44) (Go.Operand.const (Go.Value.int Go.IntKind.i64 1)) (vs_1.tail.headD undef) (Go.Value.int Go.IntKind.i64 1)) (fun v45 w =>
        J_1 [v43, v45] w) w) w) w) w) w) w) w) w) (fun w =>
          LiftP Try.prog (Instr.build 84 #[(0, (.int .i64 id)), (1, (.int .i64 n))]) (fun v49 w =>
      LiftP Try.prog (Instr.buildSlice 43 1 #[(0, v49)]) (fun v50 w =>
      NextP Try.prog (builtin Go.Builtin.append #[43, 43] 43 #[false, false] #[(vs_1.headD undef), v50]) (fun v51 w =>
      JoinP (fun J_2 w =>
        NextP Try.prog (nilChk (.pointer (some ⟨g, 0, none⟩))) (fun v54 w =>
        LiftP Try.prog (Instr.fieldAt 45 v54 1) (fun v55 w =>
        LiftP Try.prog (Instr.loadAt 43 v55) (fun v56 w =>
        NextP Try.prog (builtin Go.Builtin.len #[43] 3 #[false] #[v56]) (fun v57 w =>
        LiftP Try.prog (binS Go.BinOp.lss 3 (Go.Operand.tmp 52) (Go.Operand.tmp 57) (vs_1.tail.headD undef) v57) (fun v58 w =>
        GuardP v58 true (fun K w => K (.pointer (some ⟨g, 0, none⟩)) w) (fun v60 w =>
        GuardP v58 true (fun K w => NextP Try.prog (nilChk v60) K w) (fun v61 w =>
        GuardP v58 true (fun K w => LiftP Try.prog (Instr.fieldAt 45 v61 1) K w) (fun v62 w =>
        GuardP v58 true (fun K w => LiftP Try.prog (Instr.loadAt 43 v62) K w) (fun v63 w =>
        GuardP v58 true (fun K w => K (vs_1.tail.headD undef) w) (fun v64 w =>
        GuardP v58 true (fun K w => LiftP Try.prog (Instr.indexAt 43 v63 v64) K w) (fun v65 w =>
        GuardP v58 true (fun K w => LiftP Try.prog (Instr.fieldAt 84 v65 0) K w) (fun v66 w =>
        GuardP v58 true (fun K w => LiftP Try.prog (Instr.loadAt 3 v66) K w) (fun v67 w =>
        GuardP v58 true (fun K w => K (.int .i64 id) w) (fun v68 w =>
        GuardP v58 true (fun K w => LiftP Try.prog (binS Go.BinOp.eql 3 (Go.Operand.tmp 67) (Go.Operand.tmp 68) v67 v68) K w) (fun v69 w =>
        PickP v58 v69 (Go.Value.bool false) (fun v70 w =>
        CondP v70 (fun w =>
          LiftP Try.prog (binS Go.BinOp.add 3 (Go.Operand.tmp 71) (Go.Operand.const (Go.Value.int Go.IntKind.i64 1)) (vs_1.tail.headD undef) (Go.Value.int Go.IntKind.i64 1)) (fun v72 w =>
          J_2 [v72] w) w) (fun w =>
          J_2 [(vs_1.tail.headD undef)] w) w) w) w) w) w) w) w) w) w) w) w) w) w) w) w) w) w) (fun vs_2 w =>   -- [7]
      NextP Try.prog (nilChk (.pointer (some ⟨g, 0, none⟩))) (fun v76 w =>
      LiftP Try.prog (Instr.fieldAt 45 v76 1) (fun v77 w =>
      LiftP Try.prog (Instr.loadAt 43 v77) (fun v78 w =>
      LiftP Try.prog (Instr.sliceAt 43 v78 (some (vs_2.headD undef)) none none) (fun v80 w =>
      NextP Try.prog (builtin Go.Builtin.append #[43, 43] 43 #[false, false] #[v51, v80]) (fun v81 w =>
      NextP Try.prog (nilChk (.pointer (some ⟨g, 0, none⟩))) (fun v82 w =>
      LiftP Try.prog (Instr.fieldAt 45 v82 1) (fun v83 w =>
      LiftU Try.prog (Instr.storeAt 43 v83 v81) (fun v_ w =>
      K w) w) w) w) w) w) w) w) w) w) w) w) w) w) w) w) w) w) w) w) w) w) w) w) w) w) w) w) w) w) [(Go.Value.slice none 0 0), (Go.Value.int Go.IntKind.i64 0)] w := by
  have hF0 := h.rowF
  obtain ⟨A, cF, rfl, hcF, hmF⟩ := hF0.slice
  have hl0 := h.blk.lt
  refine LoopP.inv2 (fun fv iv w' => ∃ i : Nat, i ≤ F.length ∧ iv = .int .i64 i ∧ (∀ p ∈ F.take i, p.1 < id) ∧ w'.ownsRow 0 84 2 fv i ((F.take i).flatMap flF) ∧ Fresh w.heap.size fv ∧ Below w.heap.size w w') (fun _ iv _ => F.length - (intOf iv).toNat)
    ⟨0, by omega, rfl, by simp, ⟨by simp, .inl ⟨rfl, rfl⟩⟩, Fresh.nil _, Below.refl _ _⟩ ?_
  rintro fv _ w1 ⟨i, hi, rfl, hall, hown, hfr, hb1⟩ J hJ
  dsimp only [List.headD_cons, List.tail_cons]
  have h1 := h.below hb1
  have hF := h1.rowF
  have hs1 := hb1.size
  have c1 : w1.cell? ⟨g, 1, none⟩ = some (.slice A F.length cF) := h1.blk.cell 1
  (repeat with_reducible first | refine fd m1 (by decide) ?_ | refine ld one43 c1 ?_ | refine nck ?_ | refine cdT ?_ | refine cdF ?_ | refine gdY ?_ | refine gdFT ?_ | refine gdTF ?_ | refine gdU ?_ | refine gaY ?_ | refine gaFT ?_ | refine gaTF ?_ | refine pickT ?_ | refine pickF ?_ | refine bi_lss_t (by omega) ?_ | refine bi_lss_f (by omega) ?_ | refine bi_add64 (by omega) ?_ | refine bi_sub64 (by omega) ?_ | refine bi_eql_t (by omega) ?_ | refine bi_eql_f (by omega) ?_ | refine bi_neq_t (by omega) ?_ | refine bi_neq_f (by omega) ?_ | refine bi_gtr_t (by omega) ?_ | refine bi_gtr_f (by omega) ?_ | refine bi_leq_t (by omega) ?_ | refine bi_leq_f (by omega) ?_ | refine bi_geq_t (by omega) ?_ | refine bi_geq_f (by omega) ?_ | refine bi_xt0 ?_ | refine bi_xt1 ?_ | refine bi_xt2 ?_ | refine bi_xt3 ?_ | refine bi_T ?_ | refine bi_F ?_ | refine bi_not ?_ | refine bi_and ?_ | refine bi_or ?_ | refine bi_xor ?_ | refine bi_shr (by omega) (by decide) ?_ | refine bi_shl (by omega) (by decide) ?_ | refine bi_quo64 (by omega) ?_ | refine bi_rem64 (by omega) ?_ | refine bi_mul64 (by omega) ?_ | refine bi_neg ?_ | refine bi_un_xor32 ?_ | refine bi_add ?_ | refine bi_sub ?_ | refine bi_mul ?_ | refine bi_quo (by decide) ?_ | refine bi_rem (by decide) ?_)
  refine ln und43 ?_
  refine bi_lss_c (fun hlt => ?a) (fun hlt => ?b)
  case' a =>
    have hi' : i < F.length := by omega
    obtain ⟨gF, cF', he, hcell⟩ := rowAt flF_len hF i hi' (by decide)
    cases he
    have d0 : w1.cell? ⟨gF, i * 2 + 0, none⟩ = some (.int .i64 F[i].1) := hcell 0 _ rfl
    (repeat with_reducible first | refine fd m1 (by decide) ?_ | refine ld one43 c1 ?_ | refine ixG und43 sz84 i hi' ?_ | refine fdG f0 (by decide) ?_ | refine ld one3 d0 ?_ | refine nck ?_ | refine cdT ?_ | refine cdF ?_ | refine gdY ?_ | refine gdFT ?_ | refine gdTF ?_ | refine gdU ?_ | refine gaY ?_ | refine gaFT ?_ | refine gaTF ?_ | refine pickT ?_ | refine pickF ?_ | refine bi_lss_t (by omega) ?_ | refine bi_lss_f (by omega) ?_ | refine bi_add64 (by omega) ?_ | refine bi_sub64 (by omega) ?_ | refine bi_eql_t (by omega) ?_ | refine bi_eql_f (by omega) ?_ | refine bi_neq_t (by omega) ?_ | refine bi_neq_f (by omega) ?_ | refine bi_gtr_t (by omega) ?_ | refine bi_gtr_f (by omega) ?_ | refine bi_leq_t (by omega) ?_ | refine bi_leq_f (by omega) ?_ | refine bi_geq_t (by omega) ?_ | refine bi_geq_f (by omega) ?_ | refine bi_xt0 ?_ | refine bi_xt1 ?_ | refine bi_xt2 ?_ | refine bi_xt3 ?_ | refine bi_T ?_ | refine bi_F ?_ | refine bi_not ?_ | refine bi_and ?_ | refine bi_or ?_ | refine bi_xor ?_ | refine bi_shr (by omega) (by decide) ?_ | refine bi_shl (by omega) (by decide) ?_ | refine bi_quo64 (by omega) ?_ | refine bi_rem64 (by omega) ?_ | refine bi_mul64 (by omega) ?_ | refine bi_neg ?_ | refine bi_un_xor32 ?_ | refine bi_add ?_ | refine bi_sub ?_ | refine bi_mul ?_ | refine bi_quo (by decide) ?_ | refine bi_rem (by decide) ?_)
    refine bi_lss_c (fun h2 => ?a1) (fun h2 => ?a2)
  case a1 =>
    (repeat with_reducible first | refine fd m1 (by decide) ?_ | refine ld one43 c1 ?_ | refine ixG und43 sz84 i hi' ?_ | refine nck ?_ | refine cdT ?_ | refine cdF ?_ | refine gdY ?_ | refine gdFT ?_ | refine gdTF ?_ | refine gdU ?_ | refine gaY ?_ | refine gaFT ?_ | refine gaTF ?_ | refine pickT ?_ | refine pickF ?_ | refine bi_lss_t (by omega) ?_ | refine bi_lss_f (by omega) ?_ | refine bi_add64 (by omega) ?_ | refine bi_sub64 (by omega) ?_ | refine bi_eql_t (by omega) ?_ | refine bi_eql_f (by omega) ?_ | refine bi_neq_t (by omega) ?_ | refine bi_neq_f (by omega) ?_ | refine bi_gtr_t (by omega) ?_ | refine bi_gtr_f (by omega) ?_ | refine bi_leq_t (by omega) ?_ | refine bi_leq_f (by omega) ?_ | refine bi_geq_t (by omega) ?_ | refine bi_geq_f (by omega) ?_ | refine bi_xt0 ?_ | refine bi_xt1 ?_ | refine bi_xt2 ?_ | refine bi_xt3 ?_ | refine bi_T ?_ | refine bi_F ?_ | refine bi_not ?_ | refine bi_and ?_ | refine bi_or ?_ | refine bi_xor ?_ | refine bi_shr (by omega) (by decide) ?_ | refine bi_shl (by omega) (by decide) ?_ | refine bi_quo64 (by omega) ?_ | refine bi_rem64 (by omega) ?_ | refine bi_mul64 (by omega) ?_ | refine bi_neg ?_ | refine bi_un_xor32 ?_ | refine bi_add ?_ | refine bi_sub ?_ | refine bi_mul ?_ | refine bi_quo (by decide) ?_ | refine bi_rem (by decide) ?_)
    refine ldR (us := flF F[i]) agg84 (fun j u hu => by rw [add0]; exact hcell j u hu) (by rw [sz84]; rfl) ?_
    refine apOne und43 inf84 (by rfl) (by decide) hown (flF_len _) (flF_one _) (by omega) (by omega) (by kernel_rfl) ?_
    intro v2 w2 ho2 hbl2 hT2
    (repeat with_reducible first | refine nck ?_ | refine cdT ?_ | refine cdF ?_ | refine gdY ?_ | refine gdFT ?_ | refine gdTF ?_ | refine gdU ?_ | refine gaY ?_ | refine gaFT ?_ | refine gaTF ?_ | refine pickT ?_ | refine pickF ?_ | refine bi_lss_t (by omega) ?_ | refine bi_lss_f (by omega) ?_ | refine bi_add64 (by omega) ?_ | refine bi_sub64 (by omega) ?_ | refine bi_eql_t (by omega) ?_ | refine bi_eql_f (by omega) ?_ | refine bi_neq_t (by omega) ?_ | refine bi_neq_f (by omega) ?_ | refine bi_gtr_t (by omega) ?_ | refine bi_gtr_f (by omega) ?_ | refine bi_leq_t (by omega) ?_ | refine bi_leq_f (by omega) ?_ | refine bi_geq_t (by omega) ?_ | refine bi_geq_f (by omega) ?_ | refine bi_xt0 ?_ | refine bi_xt1 ?_ | refine bi_xt2 ?_ | refine bi_xt3 ?_ | refine bi_T ?_ | refine bi_F ?_ | refine bi_not ?_ | refine bi_and ?_ | refine bi_or ?_ | refine bi_xor ?_ | refine bi_shr (by omega) (by decide) ?_ | refine bi_shl (by omega) (by decide) ?_ | refine bi_quo64 (by omega) ?_ | refine bi_rem64 (by omega) ?_ | refine bi_mul64 (by omega) ?_ | refine bi_neg ?_ | refine bi_un_xor32 ?_ | refine bi_add ?_ | refine bi_sub ?_ | refine bi_mul ?_ | refine bi_quo (by decide) ?_ | refine bi_rem (by decide) ?_)
    refine hJ _ _ _ ⟨i + 1, by omega, by simp, fun p hp => ?_, ?_, hfr.one hs1 hbl2, hb1.trans (hT2.fresh hfr hs1)⟩ (by simp [intOf]; omega)
    · rw [List.take_succ_eq_append_getElem hi'] at hp
      rcases List.mem_append.1 hp with hp | hp
      · exact hall p hp
      · simp only [List.mem_cons, List.not_mem_nil, or_false] at hp
        subst hp; exact h2
    · rw [List.take_succ_eq_append_getElem hi', List.flatMap_append]
      simpa using ho2
  case' a2 => have hstop : ∀ h : i < F.length, ¬ F[i].1 < id := fun _ => h2
  case' b => have hstop : ∀ h : i < F.length, ¬ F[i].1 < id := fun h => absurd h (by omega)
  all_goals
    (repeat with_reducible first | refine nck ?_ | refine cdT ?_ | refine cdF ?_ | refine gdY ?_ | refine gdFT ?_ | refine gdTF ?_ | refine gdU ?_ | refine gaY ?_ | refine gaFT ?_ | refine gaTF ?_ | refine pickT ?_ | refine pickF ?_ | refine bi_lss_t (by omega) ?_ | refine bi_lss_f (by omega) ?_ | refine bi_add64 (by omega) ?_ | refine bi_sub64 (by omega) ?_ | refine bi_eql_t (by omega) ?_ | refine bi_eql_f (by omega) ?_ | refine bi_neq_t (by omega) ?_ | refine bi_neq_f (by omega) ?_ | refine bi_gtr_t (by omega) ?_ | refine bi_gtr_f (by omega) ?_ | refine bi_leq_t (by omega) ?_ | refine bi_leq_f (by omega) ?_ | refine bi_geq_t (by omega) ?_ | refine bi_geq_f (by omega) ?_ | refine bi_xt0 ?_ | refine bi_xt1 ?_ | refine bi_xt2 ?_ | refine bi_xt3 ?_ | refine bi_T ?_ | refine bi_F ?_ | refine bi_not ?_ | refine bi_and ?_ | refine bi_or ?_ | refine bi_xor ?_ | refine bi_shr (by omega) (by decide) ?_ | refine bi_shl (by omega) (by decide) ?_ | refine bi_quo64 (by omega) ?_ | refine bi_rem64 (by omega) ?_ | refine bi_mul64 (by omega) ?_ | refine bi_neg ?_ | refine bi_un_xor32 ?_ | refine bi_add ?_ | refine bi_sub ?_ | refine bi_mul ?_ | refine bi_quo (by decide) ?_ | refine bi_rem (by decide) ?_)
    refine bd (cells := (flF (id, n)).toArray) (by kernel_rfl) ?_
    refine apOne und43 inf84 (by rfl) (by decide) hown (flF_len _) (flF_one _) (by omega) (by omega) (by kernel_rfl) ?_
    intro v2 w2 ho2 hbl2 hT2
    have hfr2 := hfr.one hs1 hbl2
    have hb2 := hb1.trans (hT2.fresh hfr hs1)
    have h2' := h.below hb2
    have hs2 := hb2.size
    have hF2 := h2'.rowF
    have e1 : w2.cell? ⟨g, 1, none⟩ = some (.slice _ F.length cF) := h2'.blk.cell 1
    refine JoinP.cut (fun xs w' => xs = [.int .i64 (if h : i < F.length then (if F[i].1 = id then i + 1 else i) else i : Nat)] ∧ w2 = w') (fun J2 hJ2 => ?_) (fun xs w' hI => ?_)
    · (repeat with_reducible first | refine fd m1 (by decide) ?_ | refine ld one43 e1 ?_ | refine nck ?_ | refine cdT ?_ | refine cdF ?_ | refine gdY ?_ | refine gdFT ?_ | refine gdTF ?_ | refine gdU ?_ | refine gaY ?_ | refine gaFT ?_ | refine gaTF ?_ | refine pickT ?_ | refine pickF ?_ | refine bi_lss_t (by omega) ?_ | refine bi_lss_f (by omega) ?_ | refine bi_add64 (by omega) ?_ | refine bi_sub64 (by omega) ?_ | refine bi_eql_t (by omega) ?_ | refine bi_eql_f (by omega) ?_ | refine bi_neq_t (by omega) ?_ | refine bi_neq_f (by omega) ?_ | refine bi_gtr_t (by omega) ?_ | refine bi_gtr_f (by omega) ?_ | refine bi_leq_t (by omega) ?_ | refine bi_leq_f (by omega) ?_ | refine bi_geq_t (by omega) ?_ | refine bi_geq_f (by omega) ?_ | refine bi_xt0 ?_ | refine bi_xt1 ?_ | refine bi_xt2 ?_ | refine bi_xt3 ?_ | refine bi_T ?_ | refine bi_F ?_ | refine bi_not ?_ | refine bi_and ?_ | refine bi_or ?_ | refine bi_xor ?_ | refine bi_shr (by omega) (by decide) ?_ | refine bi_shl (by omega) (by decide) ?_ | refine bi_quo64 (by omega) ?_ | refine bi_rem64 (by omega) ?_ | refine bi_mul64 (by omega) ?_ | refine bi_neg ?_ | refine bi_un_xor32 ?_ | refine bi_add ?_ | refine bi_sub ?_ | refine bi_mul ?_ | refine bi_quo (by decide) ?_ | refine bi_rem (by decide) ?_)
      refine ln und43 ?_
      refine bi_lss_c (fun h3 => ?_) (fun h3 => ?_)
      · first
        | (exfalso; omega)
        | (have hi' : i < F.length := by omega
           obtain ⟨gF, cF', he, hcell⟩ := rowAt flF_len hF2 i hi' (by decide)
           cases he
           have d0 : w2.cell? ⟨gF, i * 2 + 0, none⟩ = some (.int .i64 F[i].1) := hcell 0 _ rfl
           (repeat with_reducible first | refine fd m1 (by decide) ?_ | refine ld one43 e1 ?_ | refine ixG und43 sz84 i hi' ?_ | refine fdG f0 (by decide) ?_ | refine ld one3 d0 ?_ | refine nck ?_ | refine cdT ?_ | refine cdF ?_ | refine gdY ?_ | refine gdFT ?_ | refine gdTF ?_ | refine gdU ?_ | refine gaY ?_ | refine gaFT ?_ | refine gaTF ?_ | refine pickT ?_ | refine pickF ?_ | refine bi_lss_t (by omega) ?_ | refine bi_lss_f (by omega) ?_ | refine bi_add64 (by omega) ?_ | refine bi_sub64 (by omega) ?_ | refine bi_eql_t (by omega) ?_ | refine bi_eql_f (by omega) ?_ | refine bi_neq_t (by omega) ?_ | refine bi_neq_f (by omega) ?_ | refine bi_gtr_t (by omega) ?_ | refine bi_gtr_f (by omega) ?_ | refine bi_leq_t (by omega) ?_ | refine bi_leq_f (by omega) ?_ | refine bi_geq_t (by omega) ?_ | refine bi_geq_f (by omega) ?_ | refine bi_xt0 ?_ | refine bi_xt1 ?_ | refine bi_xt2 ?_ | refine bi_xt3 ?_ | refine bi_T ?_ | refine bi_F ?_ | refine bi_not ?_ | refine bi_and ?_ | refine bi_or ?_ | refine bi_xor ?_ | refine bi_shr (by omega) (by decide) ?_ | refine bi_shl (by omega) (by decide) ?_ | refine bi_quo64 (by omega) ?_ | refine bi_rem64 (by omega) ?_ | refine bi_mul64 (by omega) ?_ | refine bi_neg ?_ | refine bi_un_xor32 ?_ | refine bi_add ?_ | refine bi_sub ?_ | refine bi_mul ?_ | refine bi_quo (by decide) ?_ | refine bi_rem (by decide) ?_)
           refine bi_eql_c (fun h4 => ?_) (fun h4 => ?_)
           · (repeat with_reducible first | refine nck ?_ | refine cdT ?_ | refine cdF ?_ | refine gdY ?_ | refine gdFT ?_ | refine gdTF ?_ | refine gdU ?_ | refine gaY ?_ | refine gaFT ?_ | refine gaTF ?_ | refine pickT ?_ | refine pickF ?_ | refine bi_lss_t (by omega) ?_ | refine bi_lss_f (by omega) ?_ | refine bi_add64 (by omega) ?_ | refine bi_sub64 (by omega) ?_ | refine bi_eql_t (by omega) ?_ | refine bi_eql_f (by omega) ?_ | refine bi_neq_t (by omega) ?_ | refine bi_neq_f (by omega) ?_ | refine bi_gtr_t (by omega) ?_ | refine bi_gtr_f (by omega) ?_ | refine bi_leq_t (by omega) ?_ | refine bi_leq_f (by omega) ?_ | refine bi_geq_t (by omega) ?_ | refine bi_geq_f (by omega) ?_ | refine bi_xt0 ?_ | refine bi_xt1 ?_ | refine bi_xt2 ?_ | refine bi_xt3 ?_ | refine bi_T ?_ | refine bi_F ?_ | refine bi_not ?_ | refine bi_and ?_ | refine bi_or ?_ | refine bi_xor ?_ | refine bi_shr (by omega) (by decide) ?_ | refine bi_shl (by omega) (by decide) ?_ | refine bi_quo64 (by omega) ?_ | refine bi_rem64 (by omega) ?_ | refine bi_mul64 (by omega) ?_ | refine bi_neg ?_ | refine bi_un_xor32 ?_ | refine bi_add ?_ | refine bi_sub ?_ | refine bi_mul ?_ | refine bi_quo (by decide) ?_ | refine bi_rem (by decide) ?_)
             refine hJ2 _ _ ⟨?_, rfl⟩
             rw [dif_pos hi', if_pos h4]; simp
           · (repeat with_reducible first | refine nck ?_ | refine cdT ?_ | refine cdF ?_ | refine gdY ?_ | refine gdFT ?_ | refine gdTF ?_ | refine gdU ?_ | refine gaY ?_ | refine gaFT ?_ | refine gaTF ?_ | refine pickT ?_ | refine pickF ?_ | refine bi_lss_t (by omega) ?_ | refine bi_lss_f (by omega) ?_ | refine bi_add64 (by omega) ?_ | refine bi_sub64 (by omega) ?_ | refine bi_eql_t (by omega) ?_ | refine bi_eql_f (by omega) ?_ | refine bi_neq_t (by omega) ?_ | refine bi_neq_f (by omega) ?_ | refine bi_gtr_t (by omega) ?_ | refine bi_gtr_f (by omega) ?_ | refine bi_leq_t (by omega) ?_ | refine bi_leq_f (by omega) ?_ | refine bi_geq_t (by omega) ?_ | refine bi_geq_f (by omega) ?_ | refine bi_xt0 ?_ | refine bi_xt1 ?_ | refine bi_xt2 ?_ | refine bi_xt3 ?_ | refine bi_T ?_ | refine bi_F ?_ | refine bi_not ?_ | refine bi_and ?_ | refine bi_or ?_ | refine bi_xor ?_ | refine bi_shr (by omega) (by decide) ?_ | refine bi_shl (by omega) (by decide) ?_ | refine bi_quo64 (by omega) ?_ | refine bi_rem64 (by omega) ?_ | refine bi_mul64 (by omega) ?_ | refine bi_neg ?_ | refine bi_un_xor32 ?_ | refine bi_add ?_ | refine bi_sub ?_ | refine bi_mul ?_ | refine bi_quo (by decide) ?_ | refine bi_rem (by decide) ?_)
             refine hJ2 _ _ ⟨?_, rfl⟩
             rw [dif_pos hi', if_neg h4])
      · (repeat with_reducible first | refine nck ?_ | refine cdT ?_ | refine cdF ?_ | refine gdY ?_ | refine gdFT ?_ | refine gdTF ?_ | refine gdU ?_ | refine gaY ?_ | refine gaFT ?_ | refine gaTF ?_ | refine pickT ?_ | refine pickF ?_ | refine bi_lss_t (by omega) ?_ | refine bi_lss_f (by omega) ?_ | refine bi_add64 (by omega) ?_ | refine bi_sub64 (by omega) ?_ | refine bi_eql_t (by omega) ?_ | refine bi_eql_f (by omega) ?_ | refine bi_neq_t (by omega) ?_ | refine bi_neq_f (by omega) ?_ | refine bi_gtr_t (by omega) ?_ | refine bi_gtr_f (by omega) ?_ | refine bi_leq_t (by omega) ?_ | refine bi_leq_f (by omega) ?_ | refine bi_geq_t (by omega) ?_ | refine bi_geq_f (by omega) ?_ | refine bi_xt0 ?_ | refine bi_xt1 ?_ | refine bi_xt2 ?_ | refine bi_xt3 ?_ | refine bi_T ?_ | refine bi_F ?_ | refine bi_not ?_ | refine bi_and ?_ | refine bi_or ?_ | refine bi_xor ?_ | refine bi_shr (by omega) (by decide) ?_ | refine bi_shl (by omega) (by decide) ?_ | refine bi_quo64 (by omega) ?_ | refine bi_rem64 (by omega) ?_ | refine bi_mul64 (by omega) ?_ | refine bi_neg ?_ | refine bi_un_xor32 ?_ | refine bi_add ?_ | refine bi_sub ?_ | refine bi_mul ?_ | refine bi_quo (by decide) ?_ | refine bi_rem (by decide) ?_)
        refine hJ2 _ _ ⟨?_, rfl⟩
        rw [dif_neg (by omega)]
    · obtain ⟨rfl, rfl⟩ := hI
      dsimp only [List.headD_cons, List.tail_cons]
      have hsplit := putF_split id n F i hi hall hstop
      generalize hj : (if h : i < F.length then (if F[i].1 = id then i + 1 else i) else i : Nat) = j at *
      have hjl : j ≤ F.length := by
        rw [← hj]
        by_cases hlt' : i < F.length
        · rw [dif_pos hlt']; split <;> omega
        · rw [dif_neg hlt']; exact hi
      (repeat with_reducible first | refine fd m1 (by decide) ?_ | refine ld one43 e1 ?_ | refine nck ?_ | refine cdT ?_ | refine cdF ?_ | refine gdY ?_ | refine gdFT ?_ | refine gdTF ?_ | refine gdU ?_ | refine gaY ?_ | refine gaFT ?_ | refine gaTF ?_ | refine pickT ?_ | refine pickF ?_ | refine bi_lss_t (by omega) ?_ | refine bi_lss_f (by omega) ?_ | refine bi_add64 (by omega) ?_ | refine bi_sub64 (by omega) ?_ | refine bi_eql_t (by omega) ?_ | refine bi_eql_f (by omega) ?_ | refine bi_neq_t (by omega) ?_ | refine bi_neq_f (by omega) ?_ | refine bi_gtr_t (by omega) ?_ | refine bi_gtr_f (by omega) ?_ | refine bi_leq_t (by omega) ?_ | refine bi_leq_f (by omega) ?_ | refine bi_geq_t (by omega) ?_ | refine bi_geq_f (by omega) ?_ | refine bi_xt0 ?_ | refine bi_xt1 ?_ | refine bi_xt2 ?_ | refine bi_xt3 ?_ | refine bi_T ?_ | refine bi_F ?_ | refine bi_not ?_ | refine bi_and ?_ | refine bi_or ?_ | refine bi_xor ?_ | refine bi_shr (by omega) (by decide) ?_ | refine bi_shl (by omega) (by decide) ?_ | refine bi_quo64 (by omega) ?_ | refine bi_rem64 (by omega) ?_ | refine bi_mul64 (by omega) ?_ | refine bi_neg ?_ | refine bi_un_xor32 ?_ | refine bi_add ?_ | refine bi_sub ?_ | refine bi_mul ?_ | refine bi_quo (by decide) ?_ | refine bi_rem (by decide) ?_)
      refine ofPR (pr_cut und43 sz84 (.at _ _) .no .no hjl (fun _ => hjl) hcF (Nat.le_refl _) (.inl rfl)) ?_
      have hcut := hF2.cutFrom flF_len (by decide) j hjl
      refine apR w.heap.size und43 inf84 (by rfl) (by decide) ho2 hfr2 hs2 flF_len flF_one (fun _ _ _ h => h) hcut (by rw [List.length_drop]; omega) (by rw [List.length_drop]; omega) ?_
      intro v3 w3 ho3 hf3 hb3 _
      have hb3' := hb2.trans hb3
      have h3 := h.below hb3'
      have hs3 := hb3'.size
      have h1v : v3.oneCell' = true := by
        rcases ho3.2 with ⟨e, _⟩ | ⟨g3, c3, _, e, _⟩ <;> rw [e] <;> rfl
      (repeat with_reducible first | refine fd m1 (by decide) ?_ | refine nck ?_ | refine cdT ?_ | refine cdF ?_ | refine gdY ?_ | refine gdFT ?_ | refine gdTF ?_ | refine gdU ?_ | refine gaY ?_ | refine gaFT ?_ | refine gaTF ?_ | refine pickT ?_ | refine pickF ?_ | refine bi_lss_t (by omega) ?_ | refine bi_lss_f (by omega) ?_ | refine bi_add64 (by omega) ?_ | refine bi_sub64 (by omega) ?_ | refine bi_eql_t (by omega) ?_ | refine bi_eql_f (by omega) ?_ | refine bi_neq_t (by omega) ?_ | refine bi_neq_f (by omega) ?_ | refine bi_gtr_t (by omega) ?_ | refine bi_gtr_f (by omega) ?_ | refine bi_leq_t (by omega) ?_ | refine bi_leq_f (by omega) ?_ | refine bi_geq_t (by omega) ?_ | refine bi_geq_f (by omega) ?_ | refine bi_xt0 ?_ | refine bi_xt1 ?_ | refine bi_xt2 ?_ | refine bi_xt3 ?_ | refine bi_T ?_ | refine bi_F ?_ | refine bi_not ?_ | refine bi_and ?_ | refine bi_or ?_ | refine bi_xor ?_ | refine bi_shr (by omega) (by decide) ?_ | refine bi_shl (by omega) (by decide) ?_ | refine bi_quo64 (by omega) ?_ | refine bi_rem64 (by omega) ?_ | refine bi_mul64 (by omega) ?_ | refine bi_neg ?_ | refine bi_un_xor32 ?_ | refine bi_add ?_ | refine bi_sub ?_ | refine bi_mul ?_ | refine bi_quo (by decide) ?_ | refine bi_rem (by decide) ?_)
      refine st sz43 h1v (by rw [h3.blk.cell 1]; rfl) (h3.blk.frozen 1) ?_
      have hT4 := Turns.setCell (F := fun k => k = g) (p := ⟨g, 1, none⟩) (Turns.refl _ w3) (.inl rfl) v3
      have hB4 := h3.blk.set_ 1 v3
      rw [set45b] at hB4
      have hcol := col_lt c w.heap.size hu
      have hlen : i + 1 + (F.drop j).length = (putF id n F).length := by rw [← hsplit]; simp; omega
      have hcs : ((F.take i).flatMap flF ++ flF (id, n)) ++ (F.drop j).flatMap flF = (putF id n F).flatMap flF := by rw [← hsplit]; simp [List.flatMap_append]
      rw [hlen, hcs] at ho3
      have hne : ∀ k, v3.ownBlock = some k → k ≠ g := fun k hk e => by have := hf3 k hk; omega
      have hnL : ∀ k, vL.ownBlock = some k → k ≠ g := fun k hk e => by
        rcases h3.rowL.2 with ⟨h, _⟩ | ⟨g', _, _, h, hbl, _⟩
        · rw [h] at hk; cases hk
        · rw [h] at hk
          have : g' = k := by simpa [Value.ownBlock] using hk
          exact blk_ne hbl h3.blk (by decide) (by rw [this, e])
      refine k v3 _ ⟨⟨h.hh, (hcol g hl0).trans h.hue, hB4, h3.rowL.turns hT4 hnL, (OwnR.of_own ho3).turns hT4 hne, fun k hk => by rw [hcol k (h.rowL.lt hk)]; exact h.hueL k hk, fun k hk => col_ge _ _ _ (hf3 k hk), fun x hx => ?_⟩, (Turns.of_below hb3').trans (hT4.mono fun j _ e => .inl e)⟩
      have hx0 := h.el x hx
      have hx3 := (h3.el x hx)
      refine (hx3.turns hT4 (fun k e => ?_)).re' ?_
      · rw [e, h.hue]; have := h.hh; omega
      · exact fun k hk => hcol k (hx0.own.lt hk)
end Go.Proofs.Ytmnaggdhkggjhaa.E
/- The reference's raise and put. -/
namespace Go.Proofs.Ytmnaggdhkggjhaa.E
open Go Go.RowKit
set_option linter.unusedSimpArgs false
set_option linter.unusedVariables false

theorem RefAt.neL {hu : Nat} {c : Nat → Nat} {w : World} {g : Nat} {vL vF : Value} {L : List OneM} {F : List (Int × Int)} (h : RefAt hu c w g vL vF L F) : ∀ k, vL.ownBlock = some k → k ≠ g := fun k hk e => by
  rcases h.rowL.2 with ⟨h, _⟩ | ⟨g', _, _, h', hbl, _⟩
  · rw [h] at hk; cases hk
  · rw [h'] at hk
    have : g' = k := by simpa [Value.ownBlock] using hk
    exact blk_ne hbl h.blk (by decide) (by rw [this, e])
theorem RefAt.neF {hu : Nat} {c : Nat → Nat} {w : World} {g : Nat} {vL vF : Value} {L : List OneM} {F : List (Int × Int)} (h : RefAt hu c w g vL vF L F) : ∀ k, vF.ownBlock = some k → k ≠ g := fun k hk e => by
  rcases h.rowF.2 with ⟨h, _⟩ | ⟨g', _, _, h', hbl, _⟩
  · rw [h] at hk; cases hk
  · rw [h'] at hk
    have : g' = k := by simpa [Value.ownBlock] using hk
    exact blk_ne hbl h.blk (by decide) (by rw [this, e])
theorem own1 {s : Nat} {e : TypeId} {w : World} {v : Value} {n : Nat} {xs : List Value} (h : w.ownsRow 0 e s v n xs) : v.oneCell' = true := by
  rcases h.2 with ⟨e, _⟩ | ⟨g3, c3, _, e, _⟩ <;> rw [e] <;> rfl
/-- A new row of answers is put in place. -/
theorem RefAt.setL {hu : Nat} {c : Nat → Nat} {B : Nat} {w : World} {g : Nat} {vL vF v : Value} {L L' : List OneM} {F : List (Int × Int)} (h : RefAt hu (col c B hu) w g vL vF L F) (ho : w.ownsRow 0 73 7 v L'.length (L'.flatMap oneF)) (hf : Fresh B v) (hg : g < B) (hel : ∀ x ∈ L', ElAt (col c B hu) w x) :
    RefAt hu (col c B hu) (w.setCell ⟨g, 0, none⟩ v) g v vF L' F ∧ Turns (fun k => k = g) w (w.setCell ⟨g, 0, none⟩ v) := by
  have hT := Turns.setCell (F := fun k => k = g) (p := ⟨g, 0, none⟩) (Turns.refl _ w) (.inl rfl) v
  have hB := h.blk.set_ 0 v
  rw [set45a] at hB
  refine ⟨⟨h.hh, h.hue, hB, (OwnR.of_own ho).turns hT fun k hk e => by have := hf k hk; omega, h.rowF.turns hT h.neF, fun k hk => col_ge _ _ _ (hf k hk), h.hueF, fun x hx => (hel x hx).turns hT fun k e => ?_⟩, hT⟩
  rw [e, h.hue]; have := h.hh; omega
theorem raise_spec {hu : Nat} {c : Nat → Nat} {w : World} {g : Nat} {vL vF : Value} {L : List OneM} {F : List (Int × Int)} (id n : Int) (h : RefAt hu c w g vL vF L F) (hl : F.length ≤ 90000) (hlL : L.length ≤ 100000) :
    CallP Try.prog 39 #[.pointer (some ⟨g, 0, none⟩), .int .i64 id, .int .i64 n] (fun r w' => ∃ vL' vF', RefAt hu (col c w.heap.size hu) w' g vL' vF' (raiseL L id (floorOf (raiseF F id n) id)) (raiseF F id n) ∧ Turns (fun k => k = g) w w') w := by
  refine ⟨S39.calls _ _ _ _ _ ?_⟩
  unfold S39
  have hgl := h.blk.lt
  refine JoinP.cut (fun xs w1 => xs = [] ∧ ∃ vF', MidAt hu c w w1 g vL vF' L (raiseF F id n)) (fun J hJ => ?_) (fun xs w1 hI => ?_)
  · refine (refFloor_spec id h (by omega)).mono ?_
    rintro _ _ ⟨rfl, rfl⟩
    refine bi_gtr_c (fun hgt => ?_) (fun hgt => ?_)
    · (repeat with_reducible first | refine nck ?_ | refine cdT ?_ | refine cdF ?_ | refine gdY ?_ | refine gdFT ?_ | refine gdTF ?_ | refine gdU ?_ | refine gaY ?_ | refine gaFT ?_ | refine gaTF ?_ | refine pickT ?_ | refine pickF ?_ | refine bi_lss_t (by omega) ?_ | refine bi_lss_f (by omega) ?_ | refine bi_add64 (by omega) ?_ | refine bi_sub64 (by omega) ?_ | refine bi_eql_t (by omega) ?_ | refine bi_eql_f (by omega) ?_ | refine bi_neq_t (by omega) ?_ | refine bi_neq_f (by omega) ?_ | refine bi_gtr_t (by omega) ?_ | refine bi_gtr_f (by omega) ?_ | refine bi_leq_t (by omega) ?_ | refine bi_leq_f (by omega) ?_ | refine bi_geq_t (by omega) ?_ | refine bi_geq_f (by omega) ?_ | refine bi_xt0 ?_ | refine bi_xt1 ?_ | refine bi_xt2 ?_ | refine bi_xt3 ?_ | refine bi_T ?_ | refine bi_F ?_ | refine bi_not ?_ | refine bi_and ?_ | refine bi_or ?_ | refine bi_xor ?_ | refine bi_shr (by omega) (by decide) ?_ | refine bi_shl (by omega) (by decide) ?_ | refine bi_quo64 (by omega) ?_ | refine bi_rem64 (by omega) ?_ | refine bi_mul64 (by omega) ?_ | refine bi_neg ?_ | refine bi_un_xor32 ?_ | refine bi_add ?_ | refine bi_sub ?_ | refine bi_mul ?_ | refine bi_quo (by decide) ?_ | refine bi_rem (by decide) ?_)
      refine raiseF_step id n h (by omega) ?_
      intro vF' w' hm
      refine hJ _ _ ⟨rfl, vF', ?_⟩
      rw [raiseF, if_pos hgt]; exact hm
    · (repeat with_reducible first | refine nck ?_ | refine cdT ?_ | refine cdF ?_ | refine gdY ?_ | refine gdFT ?_ | refine gdTF ?_ | refine gdU ?_ | refine gaY ?_ | refine gaFT ?_ | refine gaTF ?_ | refine pickT ?_ | refine pickF ?_ | refine bi_lss_t (by omega) ?_ | refine bi_lss_f (by omega) ?_ | refine bi_add64 (by omega) ?_ | refine bi_sub64 (by omega) ?_ | refine bi_eql_t (by omega) ?_ | refine bi_eql_f (by omega) ?_ | refine bi_neq_t (by omega) ?_ | refine bi_neq_f (by omega) ?_ | refine bi_gtr_t (by omega) ?_ | refine bi_gtr_f (by omega) ?_ | refine bi_leq_t (by omega) ?_ | refine bi_leq_f (by omega) ?_ | refine bi_geq_t (by omega) ?_ | refine bi_geq_f (by omega) ?_ | refine bi_xt0 ?_ | refine bi_xt1 ?_ | refine bi_xt2 ?_ | refine bi_xt3 ?_ | refine bi_T ?_ | refine bi_F ?_ | refine bi_not ?_ | refine bi_and ?_ | refine bi_or ?_ | refine bi_xor ?_ | refine bi_shr (by omega) (by decide) ?_ | refine bi_shl (by omega) (by decide) ?_ | refine bi_quo64 (by omega) ?_ | refine bi_rem64 (by omega) ?_ | refine bi_mul64 (by omega) ?_ | refine bi_neg ?_ | refine bi_un_xor32 ?_ | refine bi_add ?_ | refine bi_sub ?_ | refine bi_mul ?_ | refine bi_quo (by decide) ?_ | refine bi_rem (by decide) ?_)
      refine hJ _ _ ⟨rfl, vF, ?_⟩
      rw [raiseF, if_neg hgt]
      exact ⟨h.re (col_lt _ _ _), Turns.refl _ _⟩
  · obtain ⟨rfl, vF', hm, hT1⟩ := hI
    have hlF : (raiseF F id n).length ≤ 1000000 := by
      have : ∀ F : List (Int × Int), (putF id n F).length ≤ F.length + 1 := by
        intro F
        induction F with
        | nil => simp [putF]
        | cons p r ih =>
          obtain ⟨a, m⟩ := p
          rw [putF]
          split
          · simp; exact ih
          · split <;> simp
      have := this F
      unfold raiseF
      split <;> omega
    generalize raiseF F id n = F' at *
    have hs1 := hT1.size
    have hL0 := hm.rowL
    obtain ⟨A, cL, rfl, hcL, _⟩ := hL0.slice
    have hlt1 := hm.blk.lt
    refine LoopP.inv2 (fun fv iv w' => ∃ i : Nat, i ≤ L.length ∧ iv = .int .i64 i ∧ w'.ownsRow 0 73 7 fv (raiseL (L.take i) id (floorOf F' id)).length ((raiseL (L.take i) id (floorOf F' id)).flatMap oneF) ∧ Fresh w1.heap.size fv ∧ Below w1.heap.size w1 w') (fun _ iv _ => L.length - (intOf iv).toNat)
      ⟨0, by omega, rfl, ⟨by simp [raiseL], .inl ⟨rfl, by simp [raiseL]⟩⟩, Fresh.nil _, Below.refl _ _⟩ ?_
    rintro fv _ w2 ⟨i, hi, rfl, hown, hfr, hb2⟩ J hJ
    dsimp only [List.headD_cons, List.tail_cons]
    have h2 := hm.below hb2
    have hL := h2.rowL
    have hs2 := hb2.size
    have c0 : w2.cell? ⟨g, 0, none⟩ = some (.slice A L.length cL) := h2.blk.cell 0
    (repeat with_reducible first | refine fd m0 (by decide) ?_ | refine ld one42 c0 ?_ | refine nck ?_ | refine cdT ?_ | refine cdF ?_ | refine gdY ?_ | refine gdFT ?_ | refine gdTF ?_ | refine gdU ?_ | refine gaY ?_ | refine gaFT ?_ | refine gaTF ?_ | refine pickT ?_ | refine pickF ?_ | refine bi_lss_t (by omega) ?_ | refine bi_lss_f (by omega) ?_ | refine bi_add64 (by omega) ?_ | refine bi_sub64 (by omega) ?_ | refine bi_eql_t (by omega) ?_ | refine bi_eql_f (by omega) ?_ | refine bi_neq_t (by omega) ?_ | refine bi_neq_f (by omega) ?_ | refine bi_gtr_t (by omega) ?_ | refine bi_gtr_f (by omega) ?_ | refine bi_leq_t (by omega) ?_ | refine bi_leq_f (by omega) ?_ | refine bi_geq_t (by omega) ?_ | refine bi_geq_f (by omega) ?_ | refine bi_xt0 ?_ | refine bi_xt1 ?_ | refine bi_xt2 ?_ | refine bi_xt3 ?_ | refine bi_T ?_ | refine bi_F ?_ | refine bi_not ?_ | refine bi_and ?_ | refine bi_or ?_ | refine bi_xor ?_ | refine bi_shr (by omega) (by decide) ?_ | refine bi_shl (by omega) (by decide) ?_ | refine bi_quo64 (by omega) ?_ | refine bi_rem64 (by omega) ?_ | refine bi_mul64 (by omega) ?_ | refine bi_neg ?_ | refine bi_un_xor32 ?_ | refine bi_add ?_ | refine bi_sub ?_ | refine bi_mul ?_ | refine bi_quo (by decide) ?_ | refine bi_rem (by decide) ?_)
    refine ln und42 ?_
    refine bi_lss_c (fun hlt => ?_) (fun hlt => ?_)
    · have hi' : i < L.length := by omega
      obtain ⟨gL, cL', he, hcell⟩ := rowAt oneF_len hL i hi' (by decide)
      cases he
      have d0 : w2.cell? ⟨gL, i * 7 + 0, none⟩ = some (.int .i64 L[i].cl) := hcell 0 _ rfl
      have d1 : w2.cell? ⟨gL, i * 7 + 1, none⟩ = some (.int .i64 L[i].no) := hcell 1 _ rfl
      have hstep : raiseL (L.take (i + 1)) id (floorOf F' id) = raiseL (L.take i) id (floorOf F' id) ++ (if (decide (L[i].cl ≠ id) || decide (floorOf F' id < L[i].no)) = true then [L[i]] else []) := by
        unfold raiseL
        rw [List.take_succ_eq_append_getElem hi', List.filter_append]
        congr 1
        rw [List.filter_cons, List.filter_nil]
      have hll : (raiseL (L.take i) id (floorOf F' id)).length ≤ L.length := Nat.le_trans (List.length_filter_le _ _) (by rw [List.length_take]; omega)
      (repeat with_reducible first | refine nck ?_ | refine cdT ?_ | refine cdF ?_ | refine gdY ?_ | refine gdFT ?_ | refine gdTF ?_ | refine gdU ?_ | refine gaY ?_ | refine gaFT ?_ | refine gaTF ?_ | refine pickT ?_ | refine pickF ?_ | refine bi_lss_t (by omega) ?_ | refine bi_lss_f (by omega) ?_ | refine bi_add64 (by omega) ?_ | refine bi_sub64 (by omega) ?_ | refine bi_eql_t (by omega) ?_ | refine bi_eql_f (by omega) ?_ | refine bi_neq_t (by omega) ?_ | refine bi_neq_f (by omega) ?_ | refine bi_gtr_t (by omega) ?_ | refine bi_gtr_f (by omega) ?_ | refine bi_leq_t (by omega) ?_ | refine bi_leq_f (by omega) ?_ | refine bi_geq_t (by omega) ?_ | refine bi_geq_f (by omega) ?_ | refine bi_xt0 ?_ | refine bi_xt1 ?_ | refine bi_xt2 ?_ | refine bi_xt3 ?_ | refine bi_T ?_ | refine bi_F ?_ | refine bi_not ?_ | refine bi_and ?_ | refine bi_or ?_ | refine bi_xor ?_ | refine bi_shr (by omega) (by decide) ?_ | refine bi_shl (by omega) (by decide) ?_ | refine bi_quo64 (by omega) ?_ | refine bi_rem64 (by omega) ?_ | refine bi_mul64 (by omega) ?_ | refine bi_neg ?_ | refine bi_un_xor32 ?_ | refine bi_add ?_ | refine bi_sub ?_ | refine bi_mul ?_ | refine bi_quo (by decide) ?_ | refine bi_rem (by decide) ?_)
      refine JoinP.cut (fun xs w' => ∃ rv', xs = [rv'] ∧ w'.ownsRow 0 73 7 rv' (raiseL (L.take (i + 1)) id (floorOf F' id)).length ((raiseL (L.take (i + 1)) id (floorOf F' id)).flatMap oneF) ∧ Fresh w1.heap.size rv' ∧ Below w1.heap.size w1 w') (fun J1 hJ1 => ?_) (fun xs w' hI => ?_)
      · have hdr : Below w2.heap.size w2 w2.drew := (Below.refl _ _).drew
        have s0 : ∀ w', Below w2.heap.size w2 w' → w'.cell? ⟨g, 0, none⟩ = some (.slice (some ⟨gL, 0, none⟩) L.length cL) := fun w' h => (h2.blk.below' h).cell 0
        have s1 : ∀ w', Below w2.heap.size w2 w' → w'.cell? ⟨gL, i * 7 + 0, none⟩ = some (.int .i64 L[i].cl) := fun w' h => by rw [h.cell (World.block_lt_of_cell? _ _ d0), d0]
        have s2 : ∀ w', Below w2.heap.size w2 w' → w'.cell? ⟨gL, i * 7 + 1, none⟩ = some (.int .i64 L[i].no) := fun w' h => by rw [h.cell (World.block_lt_of_cell? _ _ d1), d1]
        have h2d := h2.below hdr
        have hL2d := h2d.rowL
        obtain ⟨gL', cL2, he, hcelld⟩ := rowAt oneF_len hL2d i hi' (by decide)
        cases he
        have hownd : w2.drew.ownsRow 0 73 7 fv _ _ := ownsRow_turns hown (Turns.of_below (F := fun _ => False) hdr) (fun _ _ h => h)
        have c0d : w2.drew.cell? ⟨g, 0, none⟩ = some (.slice (some ⟨gL, 0, none⟩) L.length cL) := h2d.blk.cell 0
        have hE := h2d.el _ (List.getElem_mem hi')
        refine draw (Below w2.heap.size w2) hdr ?_
        (repeat with_reducible first | refine yfd m0 (by decide) ?_ | refine yl1 one42 s0 ?_ | refine yixG und42 sz73 i hi' ?_ | refine yfdG o0 (by decide) ?_ | refine yl1 one3 s1 ?_ | refine ynck ?_ | refine nck ?_ | refine cdT ?_ | refine cdF ?_ | refine gdY ?_ | refine gdFT ?_ | refine gdTF ?_ | refine gdU ?_ | refine gaY ?_ | refine gaFT ?_ | refine gaTF ?_ | refine pickT ?_ | refine pickF ?_ | refine yi_lss_t (by omega) ?_ | refine yi_lss_f (by omega) ?_ | refine yi_add64 (by omega) ?_ | refine yi_sub64 (by omega) ?_ | refine yi_eql_t (by omega) ?_ | refine yi_eql_f (by omega) ?_ | refine yi_neq_t (by omega) ?_ | refine yi_neq_f (by omega) ?_ | refine yi_gtr_t (by omega) ?_ | refine yi_gtr_f (by omega) ?_ | refine yi_leq_t (by omega) ?_ | refine yi_leq_f (by omega) ?_ | refine yi_geq_t (by omega) ?_ | refine yi_geq_f (by omega) ?_ | refine yi_xt0 ?_ | refine yi_xt1 ?_ | refine yi_xt2 ?_ | refine yi_xt3 ?_ | refine yi_T ?_ | refine yi_F ?_ | refine yi_not ?_ | refine yi_and ?_ | refine yi_or ?_ | refine yi_xor ?_ | refine yi_shr (by omega) (by decide) ?_ | refine yi_shl (by omega) (by decide) ?_ | refine yi_quo64 (by omega) ?_ | refine yi_rem64 (by omega) ?_ | refine yi_mul64 (by omega) ?_ | refine yi_neg ?_ | refine yi_un_xor32 ?_ | refine yi_add ?_ | refine yi_sub ?_ | refine yi_mul ?_ | refine yi_quo (by decide) ?_ | refine yi_rem (by decide) ?_)
        refine yi_neq_c (fun hne => ?_) (fun heq => ?_)
        · (repeat with_reducible first | refine fd m0 (by decide) ?_ | refine ld one42 c0d ?_ | refine ixG und42 sz73 i hi' ?_ | refine nck ?_ | refine cdT ?_ | refine cdF ?_ | refine gdY ?_ | refine gdFT ?_ | refine gdTF ?_ | refine gdU ?_ | refine gaY ?_ | refine gaFT ?_ | refine gaTF ?_ | refine pickT ?_ | refine pickF ?_ | refine bi_lss_t (by omega) ?_ | refine bi_lss_f (by omega) ?_ | refine bi_add64 (by omega) ?_ | refine bi_sub64 (by omega) ?_ | refine bi_eql_t (by omega) ?_ | refine bi_eql_f (by omega) ?_ | refine bi_neq_t (by omega) ?_ | refine bi_neq_f (by omega) ?_ | refine bi_gtr_t (by omega) ?_ | refine bi_gtr_f (by omega) ?_ | refine bi_leq_t (by omega) ?_ | refine bi_leq_f (by omega) ?_ | refine bi_geq_t (by omega) ?_ | refine bi_geq_f (by omega) ?_ | refine bi_xt0 ?_ | refine bi_xt1 ?_ | refine bi_xt2 ?_ | refine bi_xt3 ?_ | refine bi_T ?_ | refine bi_F ?_ | refine bi_not ?_ | refine bi_and ?_ | refine bi_or ?_ | refine bi_xor ?_ | refine bi_shr (by omega) (by decide) ?_ | refine bi_shl (by omega) (by decide) ?_ | refine bi_quo64 (by omega) ?_ | refine bi_rem64 (by omega) ?_ | refine bi_mul64 (by omega) ?_ | refine bi_neg ?_ | refine bi_un_xor32 ?_ | refine bi_add ?_ | refine bi_sub ?_ | refine bi_mul ?_ | refine bi_quo (by decide) ?_ | refine bi_rem (by decide) ?_)
          refine ldR (us := oneF L[i]) agg73 (fun j u hu => by rw [add0]; exact hcelld j u hu) (by rw [sz73]; rfl) ?_
          refine apOne und42 inf73 (by rfl) (by decide) hownd (oneF_len _) (oneF_one hE) (by omega) (by omega) (by kernel_rfl) ?_
          intro v3 w3 ho3 hbl3 hT3
          have hsd : w1.heap.size ≤ w2.drew.heap.size := hs2
          refine hJ1 _ _ ⟨v3, rfl, ?_, hfr.one hsd hbl3, (below_then hb2 hdr).trans (hT3.fresh hfr hsd)⟩
          rw [hstep, if_pos (by simp [hne]), List.length_append, List.flatMap_append]
          simpa using ho3
        · (repeat with_reducible first | refine yfd m0 (by decide) ?_ | refine yl1 one42 s0 ?_ | refine yixG und42 sz73 i hi' ?_ | refine yfdG o1 (by decide) ?_ | refine yl1 one3 s2 ?_ | refine ynck ?_ | refine nck ?_ | refine cdT ?_ | refine cdF ?_ | refine gdY ?_ | refine gdFT ?_ | refine gdTF ?_ | refine gdU ?_ | refine gaY ?_ | refine gaFT ?_ | refine gaTF ?_ | refine pickT ?_ | refine pickF ?_ | refine yi_lss_t (by omega) ?_ | refine yi_lss_f (by omega) ?_ | refine yi_add64 (by omega) ?_ | refine yi_sub64 (by omega) ?_ | refine yi_eql_t (by omega) ?_ | refine yi_eql_f (by omega) ?_ | refine yi_neq_t (by omega) ?_ | refine yi_neq_f (by omega) ?_ | refine yi_gtr_t (by omega) ?_ | refine yi_gtr_f (by omega) ?_ | refine yi_leq_t (by omega) ?_ | refine yi_leq_f (by omega) ?_ | refine yi_geq_t (by omega) ?_ | refine yi_geq_f (by omega) ?_ | refine yi_xt0 ?_ | refine yi_xt1 ?_ | refine yi_xt2 ?_ | refine yi_xt3 ?_ | refine yi_T ?_ | refine yi_F ?_ | refine yi_not ?_ | refine yi_and ?_ | refine yi_or ?_ | refine yi_xor ?_ | refine yi_shr (by omega) (by decide) ?_ | refine yi_shl (by omega) (by decide) ?_ | refine yi_quo64 (by omega) ?_ | refine yi_rem64 (by omega) ?_ | refine yi_mul64 (by omega) ?_ | refine yi_neg ?_ | refine yi_un_xor32 ?_ | refine yi_add ?_ | refine yi_sub ?_ | refine yi_mul ?_ | refine yi_quo (by decide) ?_ | refine yi_rem (by decide) ?_)
          refine act ?_
          refine (refFloor_spec id h2d hlF).mono ?_
          rintro _ _ ⟨rfl, rfl⟩
          refine ⟨_, hdr, fun _ h => h, ?_⟩
          (repeat with_reducible first | refine ynck ?_ | refine nck ?_ | refine cdT ?_ | refine cdF ?_ | refine gdY ?_ | refine gdFT ?_ | refine gdTF ?_ | refine gdU ?_ | refine gaY ?_ | refine gaFT ?_ | refine gaTF ?_ | refine pickT ?_ | refine pickF ?_ | refine yi_lss_t (by omega) ?_ | refine yi_lss_f (by omega) ?_ | refine yi_add64 (by omega) ?_ | refine yi_sub64 (by omega) ?_ | refine yi_eql_t (by omega) ?_ | refine yi_eql_f (by omega) ?_ | refine yi_neq_t (by omega) ?_ | refine yi_neq_f (by omega) ?_ | refine yi_gtr_t (by omega) ?_ | refine yi_gtr_f (by omega) ?_ | refine yi_leq_t (by omega) ?_ | refine yi_leq_f (by omega) ?_ | refine yi_geq_t (by omega) ?_ | refine yi_geq_f (by omega) ?_ | refine yi_xt0 ?_ | refine yi_xt1 ?_ | refine yi_xt2 ?_ | refine yi_xt3 ?_ | refine yi_T ?_ | refine yi_F ?_ | refine yi_not ?_ | refine yi_and ?_ | refine yi_or ?_ | refine yi_xor ?_ | refine yi_shr (by omega) (by decide) ?_ | refine yi_shl (by omega) (by decide) ?_ | refine yi_quo64 (by omega) ?_ | refine yi_rem64 (by omega) ?_ | refine yi_mul64 (by omega) ?_ | refine yi_neg ?_ | refine yi_un_xor32 ?_ | refine yi_add ?_ | refine yi_sub ?_ | refine yi_mul ?_ | refine yi_quo (by decide) ?_ | refine yi_rem (by decide) ?_)
          refine yi_gtr_c (fun hgt => ?_) (fun hgt => ?_)
          · (repeat with_reducible first | refine fd m0 (by decide) ?_ | refine ld one42 c0d ?_ | refine ixG und42 sz73 i hi' ?_ | refine nck ?_ | refine cdT ?_ | refine cdF ?_ | refine gdY ?_ | refine gdFT ?_ | refine gdTF ?_ | refine gdU ?_ | refine gaY ?_ | refine gaFT ?_ | refine gaTF ?_ | refine pickT ?_ | refine pickF ?_ | refine bi_lss_t (by omega) ?_ | refine bi_lss_f (by omega) ?_ | refine bi_add64 (by omega) ?_ | refine bi_sub64 (by omega) ?_ | refine bi_eql_t (by omega) ?_ | refine bi_eql_f (by omega) ?_ | refine bi_neq_t (by omega) ?_ | refine bi_neq_f (by omega) ?_ | refine bi_gtr_t (by omega) ?_ | refine bi_gtr_f (by omega) ?_ | refine bi_leq_t (by omega) ?_ | refine bi_leq_f (by omega) ?_ | refine bi_geq_t (by omega) ?_ | refine bi_geq_f (by omega) ?_ | refine bi_xt0 ?_ | refine bi_xt1 ?_ | refine bi_xt2 ?_ | refine bi_xt3 ?_ | refine bi_T ?_ | refine bi_F ?_ | refine bi_not ?_ | refine bi_and ?_ | refine bi_or ?_ | refine bi_xor ?_ | refine bi_shr (by omega) (by decide) ?_ | refine bi_shl (by omega) (by decide) ?_ | refine bi_quo64 (by omega) ?_ | refine bi_rem64 (by omega) ?_ | refine bi_mul64 (by omega) ?_ | refine bi_neg ?_ | refine bi_un_xor32 ?_ | refine bi_add ?_ | refine bi_sub ?_ | refine bi_mul ?_ | refine bi_quo (by decide) ?_ | refine bi_rem (by decide) ?_)
            refine ldR (us := oneF L[i]) agg73 (fun j u hu => by rw [add0]; exact hcelld j u hu) (by rw [sz73]; rfl) ?_
            refine apOne und42 inf73 (by rfl) (by decide) hownd (oneF_len _) (oneF_one hE) (by omega) (by omega) (by kernel_rfl) ?_
            intro v3 w3 ho3 hbl3 hT3
            have hsd : w1.heap.size ≤ w2.drew.heap.size := hs2
            refine hJ1 _ _ ⟨v3, rfl, ?_, hfr.one hsd hbl3, (below_then hb2 hdr).trans (hT3.fresh hfr hsd)⟩
            rw [hstep, if_pos (by simp [hgt]), List.length_append, List.flatMap_append]
            simpa using ho3
          · (repeat with_reducible first | refine nck ?_ | refine cdT ?_ | refine cdF ?_ | refine gdY ?_ | refine gdFT ?_ | refine gdTF ?_ | refine gdU ?_ | refine gaY ?_ | refine gaFT ?_ | refine gaTF ?_ | refine pickT ?_ | refine pickF ?_ | refine bi_lss_t (by omega) ?_ | refine bi_lss_f (by omega) ?_ | refine bi_add64 (by omega) ?_ | refine bi_sub64 (by omega) ?_ | refine bi_eql_t (by omega) ?_ | refine bi_eql_f (by omega) ?_ | refine bi_neq_t (by omega) ?_ | refine bi_neq_f (by omega) ?_ | refine bi_gtr_t (by omega) ?_ | refine bi_gtr_f (by omega) ?_ | refine bi_leq_t (by omega) ?_ | refine bi_leq_f (by omega) ?_ | refine bi_geq_t (by omega) ?_ | refine bi_geq_f (by omega) ?_ | refine bi_xt0 ?_ | refine bi_xt1 ?_ | refine bi_xt2 ?_ | refine bi_xt3 ?_ | refine bi_T ?_ | refine bi_F ?_ | refine bi_not ?_ | refine bi_and ?_ | refine bi_or ?_ | refine bi_xor ?_ | refine bi_shr (by omega) (by decide) ?_ | refine bi_shl (by omega) (by decide) ?_ | refine bi_quo64 (by omega) ?_ | refine bi_rem64 (by omega) ?_ | refine bi_mul64 (by omega) ?_ | refine bi_neg ?_ | refine bi_un_xor32 ?_ | refine bi_add ?_ | refine bi_sub ?_ | refine bi_mul ?_ | refine bi_quo (by decide) ?_ | refine bi_rem (by decide) ?_)
            refine hJ1 _ _ ⟨fv, rfl, ?_, hfr, below_then hb2 hdr⟩
            have heq' : L[i].cl = id := by simpa using heq
            rw [hstep, if_neg (by simp [heq', hgt]), List.append_nil]
            exact hownd
      · obtain ⟨rv', rfl, ho, hf, hb⟩ := hI
        dsimp only [List.headD_cons, List.tail_cons]
        (repeat with_reducible first | refine nck ?_ | refine cdT ?_ | refine cdF ?_ | refine gdY ?_ | refine gdFT ?_ | refine gdTF ?_ | refine gdU ?_ | refine gaY ?_ | refine gaFT ?_ | refine gaTF ?_ | refine pickT ?_ | refine pickF ?_ | refine bi_lss_t (by omega) ?_ | refine bi_lss_f (by omega) ?_ | refine bi_add64 (by omega) ?_ | refine bi_sub64 (by omega) ?_ | refine bi_eql_t (by omega) ?_ | refine bi_eql_f (by omega) ?_ | refine bi_neq_t (by omega) ?_ | refine bi_neq_f (by omega) ?_ | refine bi_gtr_t (by omega) ?_ | refine bi_gtr_f (by omega) ?_ | refine bi_leq_t (by omega) ?_ | refine bi_leq_f (by omega) ?_ | refine bi_geq_t (by omega) ?_ | refine bi_geq_f (by omega) ?_ | refine bi_xt0 ?_ | refine bi_xt1 ?_ | refine bi_xt2 ?_ | refine bi_xt3 ?_ | refine bi_T ?_ | refine bi_F ?_ | refine bi_not ?_ | refine bi_and ?_ | refine bi_or ?_ | refine bi_xor ?_ | refine bi_shr (by omega) (by decide) ?_ | refine bi_shl (by omega) (by decide) ?_ | refine bi_quo64 (by omega) ?_ | refine bi_rem64 (by omega) ?_ | refine bi_mul64 (by omega) ?_ | refine bi_neg ?_ | refine bi_un_xor32 ?_ | refine bi_add ?_ | refine bi_sub ?_ | refine bi_mul ?_ | refine bi_quo (by decide) ?_ | refine bi_rem (by decide) ?_)
        exact hJ _ _ _ ⟨i + 1, by omega, by simp, ho, hf, hb⟩ (by simp [intOf]; omega)
    · have : i = L.length := by omega
      subst this
      rw [List.take_length] at hown
      (repeat with_reducible first | refine fd m0 (by decide) ?_ | refine nck ?_ | refine cdT ?_ | refine cdF ?_ | refine gdY ?_ | refine gdFT ?_ | refine gdTF ?_ | refine gdU ?_ | refine gaY ?_ | refine gaFT ?_ | refine gaTF ?_ | refine pickT ?_ | refine pickF ?_ | refine bi_lss_t (by omega) ?_ | refine bi_lss_f (by omega) ?_ | refine bi_add64 (by omega) ?_ | refine bi_sub64 (by omega) ?_ | refine bi_eql_t (by omega) ?_ | refine bi_eql_f (by omega) ?_ | refine bi_neq_t (by omega) ?_ | refine bi_neq_f (by omega) ?_ | refine bi_gtr_t (by omega) ?_ | refine bi_gtr_f (by omega) ?_ | refine bi_leq_t (by omega) ?_ | refine bi_leq_f (by omega) ?_ | refine bi_geq_t (by omega) ?_ | refine bi_geq_f (by omega) ?_ | refine bi_xt0 ?_ | refine bi_xt1 ?_ | refine bi_xt2 ?_ | refine bi_xt3 ?_ | refine bi_T ?_ | refine bi_F ?_ | refine bi_not ?_ | refine bi_and ?_ | refine bi_or ?_ | refine bi_xor ?_ | refine bi_shr (by omega) (by decide) ?_ | refine bi_shl (by omega) (by decide) ?_ | refine bi_quo64 (by omega) ?_ | refine bi_rem64 (by omega) ?_ | refine bi_mul64 (by omega) ?_ | refine bi_neg ?_ | refine bi_un_xor32 ?_ | refine bi_add ?_ | refine bi_sub ?_ | refine bi_mul ?_ | refine bi_quo (by decide) ?_ | refine bi_rem (by decide) ?_)
      refine st sz42 (own1 hown) (by rw [h2.blk.cell 0]; rfl) (h2.blk.frozen 0) ?_
      obtain ⟨hR, hT⟩ := h2.setL hown (fun k hk => by have := hfr k hk; omega) hgl (fun x hx => h2.el x (List.mem_filter.1 hx).1)
      exact ⟨fv, vF', hR, (hT1.then_below hb2).trans (hT.mono fun k _ e => .inl e)⟩
end Go.Proofs.Ytmnaggdhkggjhaa.E
/- The reference's put. -/
namespace Go.Proofs.Ytmnaggdhkggjhaa.E
open Go Go.RowKit
set_option linter.unusedSimpArgs false
set_option linter.unusedVariables false

def ltO (y x : OneM) : Bool := decide (y.cl < x.cl) || (decide (y.cl = x.cl) && decide (y.no < x.no))
def putL (x : OneM) : List OneM → List OneM
  | [] => [x]
  | y :: r => if ltO y x = true then y :: putL x r else x :: y :: r
theorem putL_split (x : OneM) : ∀ (L : List OneM) (i : Nat) (hi : i ≤ L.length), (∀ y ∈ L.take i, ltO y x = true) → (∀ h : i < L.length, ¬ ltO L[i] x = true) → L.take i ++ x :: L.drop i = putL x L
  | [], i, hi, _, _ => by
    have : i = 0 := by simpa using hi
    subst this; rfl
  | y :: r, 0, _, _, h2 => by
    have h2 : ¬ ltO y x = true := h2 (by simp)
    rw [putL, if_neg h2]; rfl
  | y :: r, i + 1, hi, h1, h2 => by
    rw [putL, if_pos (h1 y (by simp)), ← putL_split x r i (by simpa using hi) (fun p hp => h1 p (by simp [hp])) (fun h => h2 (Nat.succ_lt_succ h))]
    rfl
theorem putL_mem {x y : OneM} : ∀ {L : List OneM}, y ∈ putL x L → y = x ∨ y ∈ L
  | [], h => by simp only [putL, List.mem_cons, List.not_mem_nil, or_false] at h; exact .inl h
  | z :: r, h => by
    rw [putL] at h
    split at h
    · rcases List.mem_cons.1 h with h | h
      · exact .inr (by simp [h])
      · exact (putL_mem h).imp (fun h => h) (fun h => by simp [h])
    · rcases List.mem_cons.1 h with h | h
      · exact .inl h
      · exact .inr h
theorem putL_len (x : OneM) : ∀ L : List OneM, (putL x L).length = L.length + 1
  | [] => rfl
  | z :: r => by
    rw [putL]
    split
    · rw [List.length_cons, putL_len x r, List.length_cons]
    · rfl
/-- What the reference's table is behind a put. -/
def putR (L : List OneM) (F : List (Int × Int)) (x : OneM) : List OneM × List (Int × Int) :=
  if 4 < (knownL (putL x L) x.cl).length then
    (raiseL (putL x L) x.cl (floorOf (raiseF F x.cl ((knownL (putL x L) x.cl).getD ((knownL (putL x L) x.cl).length - 5) 0)) x.cl), raiseF F x.cl ((knownL (putL x L) x.cl).getD ((knownL (putL x L) x.cl).length - 5) 0))
  else (putL x L, F)
theorem put_spec {hu : Nat} {c : Nat → Nat} {w : World} {g : Nat} {vL vF : Value} {L : List OneM} {F : List (Int × Int)} (x : OneM) (h : RefAt hu c w g vL vF L F) (hx : ElAt c w x) (hl : F.length ≤ 80000) (hlL : L.length ≤ 90000) :
    CallP Try.prog 34 #[.pointer (some ⟨g, 0, none⟩), .agg (oneF x).toArray] (fun r w' => ∃ c' vL' vF', (∀ k, k < w.heap.size → c' k = c k) ∧ RefAt hu c' w' g vL' vF' (putR L F x).1 (putR L F x).2 ∧ Turns (fun k => k = g) w w') w := by
  refine ⟨S34.calls _ _ _ _ ?_⟩
  unfold S34
  have hgl := h.blk.lt
  refine bx ?_
  have hX : Blk (w.alloc (.cells (Value.agg (oneF x).toArray).cells 73)) w.heap.size 73 (oneF x).toArray := Blk.new w 73 _
  have ha := (Below.refl w.heap.size w).alloc (Nat.le_refl _) (.cells (Value.agg (oneF x).toArray).cells 73)
  generalize w.alloc (.cells (Value.agg (oneF x).toArray).cells 73) = w1 at *
  have hL0 := h.rowL
  obtain ⟨A, cL, rfl, hcL, _⟩ := hL0.slice
  refine LoopP.inv2 (fun fv iv w' => ∃ i : Nat, i ≤ L.length ∧ iv = .int .i64 i ∧ (∀ y ∈ L.take i, ltO y x = true) ∧ w'.ownsRow 0 73 7 fv i ((L.take i).flatMap oneF) ∧ Fresh w.heap.size fv ∧ Blk w' w.heap.size 73 (oneF x).toArray ∧ (∀ k, fv.ownBlock = some k → k ≠ w.heap.size) ∧ Below w.heap.size w w') (fun _ iv _ => L.length - (intOf iv).toNat)
    ⟨0, by omega, rfl, by simp, ⟨by simp, .inl ⟨rfl, rfl⟩⟩, Fresh.nil _, hX, (fun k hk => by cases hk), ha⟩ ?_
  rintro fv _ w2 ⟨i, hi, rfl, hall, hown, hfr, hX2, hfx, hb2⟩ J hJ
  dsimp only [List.headD_cons, List.tail_cons]
  have h2 := h.below hb2
  have hs2 := hb2.size
  have hdr : Below w2.heap.size w2 w2.drew := (Below.refl _ _).drew
  have hb2d := below_then hb2 hdr
  have h2d := h2.below hdr
  have hX2d := hX2.below' hdr
  have hownd : w2.drew.ownsRow 0 73 7 fv i ((L.take i).flatMap oneF) := ownsRow_turns hown (Turns.of_below (F := fun _ => False) hdr) (fun _ _ h => h)
  have hL2 := h2d.rowL
  have x0 : ∀ w', Below w2.heap.size w2 w' → w'.cell? ⟨w.heap.size, 0, none⟩ = some (.int .i64 x.cl) := fun w' h => (hX2.below' h).cell 0
  have x1 : ∀ w', Below w2.heap.size w2 w' → w'.cell? ⟨w.heap.size, 1, none⟩ = some (.int .i64 x.no) := fun w' h => (hX2.below' h).cell 1
  have s0 : ∀ w', Below w2.heap.size w2 w' → w'.cell? ⟨g, 0, none⟩ = some (.slice A L.length cL) := fun w' h => (h2.blk.below' h).cell 0
  refine draw (Below w2.heap.size w2) hdr ?_
  (repeat with_reducible first | refine yfd m0 (by decide) ?_ | refine yl1 one42 s0 ?_ | refine ynck ?_ | refine nck ?_ | refine cdT ?_ | refine cdF ?_ | refine gdY ?_ | refine gdFT ?_ | refine gdTF ?_ | refine gdU ?_ | refine gaY ?_ | refine gaFT ?_ | refine gaTF ?_ | refine pickT ?_ | refine pickF ?_ | refine yi_lss_t (by omega) ?_ | refine yi_lss_f (by omega) ?_ | refine yi_add64 (by omega) ?_ | refine yi_sub64 (by omega) ?_ | refine yi_eql_t (by omega) ?_ | refine yi_eql_f (by omega) ?_ | refine yi_neq_t (by omega) ?_ | refine yi_neq_f (by omega) ?_ | refine yi_gtr_t (by omega) ?_ | refine yi_gtr_f (by omega) ?_ | refine yi_leq_t (by omega) ?_ | refine yi_leq_f (by omega) ?_ | refine yi_geq_t (by omega) ?_ | refine yi_geq_f (by omega) ?_ | refine yi_xt0 ?_ | refine yi_xt1 ?_ | refine yi_xt2 ?_ | refine yi_xt3 ?_ | refine yi_T ?_ | refine yi_F ?_ | refine yi_not ?_ | refine yi_and ?_ | refine yi_or ?_ | refine yi_xor ?_ | refine yi_shr (by omega) (by decide) ?_ | refine yi_shl (by omega) (by decide) ?_ | refine yi_quo64 (by omega) ?_ | refine yi_rem64 (by omega) ?_ | refine yi_mul64 (by omega) ?_ | refine yi_neg ?_ | refine yi_un_xor32 ?_ | refine yi_add ?_ | refine yi_sub ?_ | refine yi_mul ?_ | refine yi_quo (by decide) ?_ | refine yi_rem (by decide) ?_)
  refine yln und42 ?_
  refine yi_lss_c (fun hlt => ?a) (fun hlt => ?f1)
  case' a =>
    have hi' : i < L.length := by omega
    obtain ⟨gL, cL', he, hcell⟩ := rowAt oneF_len hL2 i hi' (by decide)
    cases he
    have d0 : w2.drew.cell? ⟨gL, i * 7 + 0, none⟩ = some (.int .i64 L[i].cl) := hcell 0 _ rfl
    have d1 : w2.drew.cell? ⟨gL, i * 7 + 1, none⟩ = some (.int .i64 L[i].no) := hcell 1 _ rfl
    have s1 : ∀ w', Below w2.heap.size w2 w' → w'.cell? ⟨gL, i * 7 + 0, none⟩ = some (.int .i64 L[i].cl) := fun w' h => (h.cell (World.block_lt_of_cell? w2 _ d0)).trans d0
    have s2 : ∀ w', Below w2.heap.size w2 w' → w'.cell? ⟨gL, i * 7 + 1, none⟩ = some (.int .i64 L[i].no) := fun w' h => (h.cell (World.block_lt_of_cell? w2 _ d1)).trans d1
    (repeat with_reducible first | refine yfd m0 (by decide) ?_ | refine yl1 one42 s0 ?_ | refine yixG und42 sz73 i hi' ?_ | refine yfdG o0 (by decide) ?_ | refine yl1 one3 s1 ?_ | refine yfd o0 (by decide) ?_ | refine yl1 one3 x0 ?_ | refine ynck ?_ | refine nck ?_ | refine cdT ?_ | refine cdF ?_ | refine gdY ?_ | refine gdFT ?_ | refine gdTF ?_ | refine gdU ?_ | refine gaY ?_ | refine gaFT ?_ | refine gaTF ?_ | refine pickT ?_ | refine pickF ?_ | refine yi_lss_t (by omega) ?_ | refine yi_lss_f (by omega) ?_ | refine yi_add64 (by omega) ?_ | refine yi_sub64 (by omega) ?_ | refine yi_eql_t (by omega) ?_ | refine yi_eql_f (by omega) ?_ | refine yi_neq_t (by omega) ?_ | refine yi_neq_f (by omega) ?_ | refine yi_gtr_t (by omega) ?_ | refine yi_gtr_f (by omega) ?_ | refine yi_leq_t (by omega) ?_ | refine yi_leq_f (by omega) ?_ | refine yi_geq_t (by omega) ?_ | refine yi_geq_f (by omega) ?_ | refine yi_xt0 ?_ | refine yi_xt1 ?_ | refine yi_xt2 ?_ | refine yi_xt3 ?_ | refine yi_T ?_ | refine yi_F ?_ | refine yi_not ?_ | refine yi_and ?_ | refine yi_or ?_ | refine yi_xor ?_ | refine yi_shr (by omega) (by decide) ?_ | refine yi_shl (by omega) (by decide) ?_ | refine yi_quo64 (by omega) ?_ | refine yi_rem64 (by omega) ?_ | refine yi_mul64 (by omega) ?_ | refine yi_neg ?_ | refine yi_un_xor32 ?_ | refine yi_add ?_ | refine yi_sub ?_ | refine yi_mul ?_ | refine yi_quo (by decide) ?_ | refine yi_rem (by decide) ?_)
    refine yi_lss_c (fun h3 => ?t1) (fun h3 => ?b)
  case' b =>
    (repeat with_reducible first | refine yfd m0 (by decide) ?_ | refine yl1 one42 s0 ?_ | refine yixG und42 sz73 i hi' ?_ | refine yfdG o0 (by decide) ?_ | refine yl1 one3 s1 ?_ | refine yfd o0 (by decide) ?_ | refine yl1 one3 x0 ?_ | refine ynck ?_ | refine nck ?_ | refine cdT ?_ | refine cdF ?_ | refine gdY ?_ | refine gdFT ?_ | refine gdTF ?_ | refine gdU ?_ | refine gaY ?_ | refine gaFT ?_ | refine gaTF ?_ | refine pickT ?_ | refine pickF ?_ | refine yi_lss_t (by omega) ?_ | refine yi_lss_f (by omega) ?_ | refine yi_add64 (by omega) ?_ | refine yi_sub64 (by omega) ?_ | refine yi_eql_t (by omega) ?_ | refine yi_eql_f (by omega) ?_ | refine yi_neq_t (by omega) ?_ | refine yi_neq_f (by omega) ?_ | refine yi_gtr_t (by omega) ?_ | refine yi_gtr_f (by omega) ?_ | refine yi_leq_t (by omega) ?_ | refine yi_leq_f (by omega) ?_ | refine yi_geq_t (by omega) ?_ | refine yi_geq_f (by omega) ?_ | refine yi_xt0 ?_ | refine yi_xt1 ?_ | refine yi_xt2 ?_ | refine yi_xt3 ?_ | refine yi_T ?_ | refine yi_F ?_ | refine yi_not ?_ | refine yi_and ?_ | refine yi_or ?_ | refine yi_xor ?_ | refine yi_shr (by omega) (by decide) ?_ | refine yi_shl (by omega) (by decide) ?_ | refine yi_quo64 (by omega) ?_ | refine yi_rem64 (by omega) ?_ | refine yi_mul64 (by omega) ?_ | refine yi_neg ?_ | refine yi_un_xor32 ?_ | refine yi_add ?_ | refine yi_sub ?_ | refine yi_mul ?_ | refine yi_quo (by decide) ?_ | refine yi_rem (by decide) ?_)
    refine yi_eql_c (fun h4 => ?c) (fun h4 => ?f2)
  case' c =>
    (repeat with_reducible first | refine yfd m0 (by decide) ?_ | refine yl1 one42 s0 ?_ | refine yixG und42 sz73 i hi' ?_ | refine yfdG o1 (by decide) ?_ | refine yl1 one3 s2 ?_ | refine yfd o1 (by decide) ?_ | refine yl1 one3 x1 ?_ | refine ynck ?_ | refine nck ?_ | refine cdT ?_ | refine cdF ?_ | refine gdY ?_ | refine gdFT ?_ | refine gdTF ?_ | refine gdU ?_ | refine gaY ?_ | refine gaFT ?_ | refine gaTF ?_ | refine pickT ?_ | refine pickF ?_ | refine yi_lss_t (by omega) ?_ | refine yi_lss_f (by omega) ?_ | refine yi_add64 (by omega) ?_ | refine yi_sub64 (by omega) ?_ | refine yi_eql_t (by omega) ?_ | refine yi_eql_f (by omega) ?_ | refine yi_neq_t (by omega) ?_ | refine yi_neq_f (by omega) ?_ | refine yi_gtr_t (by omega) ?_ | refine yi_gtr_f (by omega) ?_ | refine yi_leq_t (by omega) ?_ | refine yi_leq_f (by omega) ?_ | refine yi_geq_t (by omega) ?_ | refine yi_geq_f (by omega) ?_ | refine yi_xt0 ?_ | refine yi_xt1 ?_ | refine yi_xt2 ?_ | refine yi_xt3 ?_ | refine yi_T ?_ | refine yi_F ?_ | refine yi_not ?_ | refine yi_and ?_ | refine yi_or ?_ | refine yi_xor ?_ | refine yi_shr (by omega) (by decide) ?_ | refine yi_shl (by omega) (by decide) ?_ | refine yi_quo64 (by omega) ?_ | refine yi_rem64 (by omega) ?_ | refine yi_mul64 (by omega) ?_ | refine yi_neg ?_ | refine yi_un_xor32 ?_ | refine yi_add ?_ | refine yi_sub ?_ | refine yi_mul ?_ | refine yi_quo (by decide) ?_ | refine yi_rem (by decide) ?_)
    refine yi_lss_c (fun h5 => ?t2) (fun h5 => ?f3)
  case' t1 => have hlt' : ltO L[i] x = true := by simp [ltO, h3]
  case' t2 => have hlt' : ltO L[i] x = true := by simp [ltO, h4, h5]
  case t1 | t2 =>
    have c0 : w2.drew.cell? ⟨g, 0, none⟩ = some (.slice (some ⟨gL, 0, none⟩) L.length cL) := h2d.blk.cell 0
    have hE := h2d.el _ (List.getElem_mem hi')
    (repeat with_reducible first | refine fd m0 (by decide) ?_ | refine ld one42 c0 ?_ | refine ixG und42 sz73 i hi' ?_ | refine nck ?_ | refine cdT ?_ | refine cdF ?_ | refine gdY ?_ | refine gdFT ?_ | refine gdTF ?_ | refine gdU ?_ | refine gaY ?_ | refine gaFT ?_ | refine gaTF ?_ | refine pickT ?_ | refine pickF ?_ | refine bi_lss_t (by omega) ?_ | refine bi_lss_f (by omega) ?_ | refine bi_add64 (by omega) ?_ | refine bi_sub64 (by omega) ?_ | refine bi_eql_t (by omega) ?_ | refine bi_eql_f (by omega) ?_ | refine bi_neq_t (by omega) ?_ | refine bi_neq_f (by omega) ?_ | refine bi_gtr_t (by omega) ?_ | refine bi_gtr_f (by omega) ?_ | refine bi_leq_t (by omega) ?_ | refine bi_leq_f (by omega) ?_ | refine bi_geq_t (by omega) ?_ | refine bi_geq_f (by omega) ?_ | refine bi_xt0 ?_ | refine bi_xt1 ?_ | refine bi_xt2 ?_ | refine bi_xt3 ?_ | refine bi_T ?_ | refine bi_F ?_ | refine bi_not ?_ | refine bi_and ?_ | refine bi_or ?_ | refine bi_xor ?_ | refine bi_shr (by omega) (by decide) ?_ | refine bi_shl (by omega) (by decide) ?_ | refine bi_quo64 (by omega) ?_ | refine bi_rem64 (by omega) ?_ | refine bi_mul64 (by omega) ?_ | refine bi_neg ?_ | refine bi_un_xor32 ?_ | refine bi_add ?_ | refine bi_sub ?_ | refine bi_mul ?_ | refine bi_quo (by decide) ?_ | refine bi_rem (by decide) ?_)
    refine ldR (us := oneF L[i]) agg73 (fun j u hu => by rw [add0]; exact hcell j u hu) (by rw [sz73]; rfl) ?_
    refine apOne und42 inf73 (by rfl) (by decide) hownd (oneF_len _) (oneF_one hE) (by omega) (by omega) (by kernel_rfl) ?_
    intro v3 w3 ho3 hbl3 hT3
    have hsd : w.heap.size ≤ w2.drew.heap.size := hs2
    (repeat with_reducible first | refine nck ?_ | refine cdT ?_ | refine cdF ?_ | refine gdY ?_ | refine gdFT ?_ | refine gdTF ?_ | refine gdU ?_ | refine gaY ?_ | refine gaFT ?_ | refine gaTF ?_ | refine pickT ?_ | refine pickF ?_ | refine bi_lss_t (by omega) ?_ | refine bi_lss_f (by omega) ?_ | refine bi_add64 (by omega) ?_ | refine bi_sub64 (by omega) ?_ | refine bi_eql_t (by omega) ?_ | refine bi_eql_f (by omega) ?_ | refine bi_neq_t (by omega) ?_ | refine bi_neq_f (by omega) ?_ | refine bi_gtr_t (by omega) ?_ | refine bi_gtr_f (by omega) ?_ | refine bi_leq_t (by omega) ?_ | refine bi_leq_f (by omega) ?_ | refine bi_geq_t (by omega) ?_ | refine bi_geq_f (by omega) ?_ | refine bi_xt0 ?_ | refine bi_xt1 ?_ | refine bi_xt2 ?_ | refine bi_xt3 ?_ | refine bi_T ?_ | refine bi_F ?_ | refine bi_not ?_ | refine bi_and ?_ | refine bi_or ?_ | refine bi_xor ?_ | refine bi_shr (by omega) (by decide) ?_ | refine bi_shl (by omega) (by decide) ?_ | refine bi_quo64 (by omega) ?_ | refine bi_rem64 (by omega) ?_ | refine bi_mul64 (by omega) ?_ | refine bi_neg ?_ | refine bi_un_xor32 ?_ | refine bi_add ?_ | refine bi_sub ?_ | refine bi_mul ?_ | refine bi_quo (by decide) ?_ | refine bi_rem (by decide) ?_)
    refine hJ _ _ _ ⟨i + 1, by omega, by simp, fun y hy => ?_, ?_, hfr.one hsd hbl3, hX2d.turns hT3 (fun e => hfx _ e rfl), fun k hk => ?_, hb2d.trans (hT3.fresh hfr hsd)⟩ (by simp [intOf]; omega)
    · rw [List.take_succ_eq_append_getElem hi'] at hy
      rcases List.mem_append.1 hy with hy | hy
      · exact hall y hy
      · simp only [List.mem_cons, List.not_mem_nil, or_false] at hy
        subst hy; exact hlt'
    · rw [List.take_succ_eq_append_getElem hi', List.flatMap_append]
      simpa using ho3
    · rcases hbl3 with e | ⟨b, e, hb⟩
      · exact hfx k (by rw [← e]; exact hk)
      · have hbk : b = k := by rw [e] at hk; exact Option.some.inj hk
        have := hX2.lt
        have h9 : w2.heap.size ≤ b := hb
        omega
  case' f1 => have hstop : ∀ h : i < L.length, ¬ ltO L[i] x = true := fun h => absurd h (by omega)
  case' f2 => have hstop : ∀ h : i < L.length, ¬ ltO L[i] x = true := fun _ => by simp [ltO, h3, h4]
  case' f3 => have hstop : ∀ h : i < L.length, ¬ ltO L[i] x = true := fun _ => by simp [ltO, h3, h4, h5]
  all_goals
    (repeat with_reducible first | refine nck ?_ | refine cdT ?_ | refine cdF ?_ | refine gdY ?_ | refine gdFT ?_ | refine gdTF ?_ | refine gdU ?_ | refine gaY ?_ | refine gaFT ?_ | refine gaTF ?_ | refine pickT ?_ | refine pickF ?_ | refine bi_lss_t (by omega) ?_ | refine bi_lss_f (by omega) ?_ | refine bi_add64 (by omega) ?_ | refine bi_sub64 (by omega) ?_ | refine bi_eql_t (by omega) ?_ | refine bi_eql_f (by omega) ?_ | refine bi_neq_t (by omega) ?_ | refine bi_neq_f (by omega) ?_ | refine bi_gtr_t (by omega) ?_ | refine bi_gtr_f (by omega) ?_ | refine bi_leq_t (by omega) ?_ | refine bi_leq_f (by omega) ?_ | refine bi_geq_t (by omega) ?_ | refine bi_geq_f (by omega) ?_ | refine bi_xt0 ?_ | refine bi_xt1 ?_ | refine bi_xt2 ?_ | refine bi_xt3 ?_ | refine bi_T ?_ | refine bi_F ?_ | refine bi_not ?_ | refine bi_and ?_ | refine bi_or ?_ | refine bi_xor ?_ | refine bi_shr (by omega) (by decide) ?_ | refine bi_shl (by omega) (by decide) ?_ | refine bi_quo64 (by omega) ?_ | refine bi_rem64 (by omega) ?_ | refine bi_mul64 (by omega) ?_ | refine bi_neg ?_ | refine bi_un_xor32 ?_ | refine bi_add ?_ | refine bi_sub ?_ | refine bi_mul ?_ | refine bi_quo (by decide) ?_ | refine bi_rem (by decide) ?_)
    refine ldA agg73 hX2d (by exact sz73) ?_
    refine apOne und42 inf73 (by rfl) (by decide) hownd (oneF_len _) (oneF_one hx) (by omega) (by omega) (by kernel_rfl) ?_
    intro v3 w3 ho3 hbl3 hT3
    have hsd : w.heap.size ≤ w2.drew.heap.size := hs2
    have hf3 := hfr.one hsd hbl3
    have hb3 := hb2d.trans (hT3.fresh hfr hsd)
    have hX3 := hX2d.turns hT3 (fun e => hfx _ e rfl)
    have h3' := h.below hb3
    have hs3 := hb3.size
    have hL3 := h3'.rowL
    have e0 : w3.cell? ⟨g, 0, none⟩ = some (.slice _ L.length cL) := h3'.blk.cell 0
    have hsplit := putL_split x L i hi hall hstop
    (repeat with_reducible first | refine fd m0 (by decide) ?_ | refine ld one42 e0 ?_ | refine nck ?_ | refine cdT ?_ | refine cdF ?_ | refine gdY ?_ | refine gdFT ?_ | refine gdTF ?_ | refine gdU ?_ | refine gaY ?_ | refine gaFT ?_ | refine gaTF ?_ | refine pickT ?_ | refine pickF ?_ | refine bi_lss_t (by omega) ?_ | refine bi_lss_f (by omega) ?_ | refine bi_add64 (by omega) ?_ | refine bi_sub64 (by omega) ?_ | refine bi_eql_t (by omega) ?_ | refine bi_eql_f (by omega) ?_ | refine bi_neq_t (by omega) ?_ | refine bi_neq_f (by omega) ?_ | refine bi_gtr_t (by omega) ?_ | refine bi_gtr_f (by omega) ?_ | refine bi_leq_t (by omega) ?_ | refine bi_leq_f (by omega) ?_ | refine bi_geq_t (by omega) ?_ | refine bi_geq_f (by omega) ?_ | refine bi_xt0 ?_ | refine bi_xt1 ?_ | refine bi_xt2 ?_ | refine bi_xt3 ?_ | refine bi_T ?_ | refine bi_F ?_ | refine bi_not ?_ | refine bi_and ?_ | refine bi_or ?_ | refine bi_xor ?_ | refine bi_shr (by omega) (by decide) ?_ | refine bi_shl (by omega) (by decide) ?_ | refine bi_quo64 (by omega) ?_ | refine bi_rem64 (by omega) ?_ | refine bi_mul64 (by omega) ?_ | refine bi_neg ?_ | refine bi_un_xor32 ?_ | refine bi_add ?_ | refine bi_sub ?_ | refine bi_mul ?_ | refine bi_quo (by decide) ?_ | refine bi_rem (by decide) ?_)
    refine ofPR (pr_cut und42 sz73 (.at _ _) .no .no hi (fun _ => hi) hcL (Nat.le_refl _) (.inl rfl)) ?_
    have hcut := hL3.cutFrom oneF_len (by decide) i hi
    have hf3x : Fresh (w.heap.size + 1) v3 := fun k hk => by
      have h1 := hf3 k hk
      have h2 : k ≠ w.heap.size := by
        rcases hbl3 with e | ⟨b, e, hb⟩
        · exact hfx k (by rw [← e]; exact hk)
        · have hbk : b = k := by rw [e] at hk; exact Option.some.inj hk
          have := hX2.lt
          have h9 : w2.heap.size ≤ b := hb
          omega
      omega
    have hX3l := hX3.lt
    refine apRm (w.heap.size + 1) und42 inf73 (by rfl) (by decide) ho3 hf3x (by omega) oneF_len (fun y hy => oneF_one (h3'.el y (List.mem_of_mem_drop hy))) hcut (by rw [List.length_drop]; omega) (by rw [List.length_drop]; omega) ?_
    intro v4 w4 ho4 hf4 hb4
    have hb4' : Below w.heap.size w3 w4 := hb4.mono (by omega)
    have hb04 := hb3.trans hb4'
    have hX4 : Blk w4 w.heap.size 73 (oneF x).toArray := hX3.below hb4 (by omega)
    have h4' : RefAt hu (col c w.heap.size hu) w4 g _ vF L F := (h.re (col_lt _ _ _)).below hb04
    have hx4 : ElAt (col c w.heap.size hu) w4 x := (hx.re (col_lt _ _ _)).turns (G := fun _ => False) (Turns.of_below hb04) (fun _ h => h.elim)
    have hlen : i + 1 + (L.drop i).length = (putL x L).length := by rw [← hsplit]; simp; omega
    have hcs : ((L.take i).flatMap oneF ++ oneF x) ++ (L.drop i).flatMap oneF = (putL x L).flatMap oneF := by rw [← hsplit]; simp [List.flatMap_append]
    rw [hlen, hcs] at ho4
    have hf4' : Fresh w.heap.size v4 := fun k hk => by have := hf4 k hk; omega
    (repeat with_reducible first | refine fd m0 (by decide) ?_ | refine nck ?_ | refine cdT ?_ | refine cdF ?_ | refine gdY ?_ | refine gdFT ?_ | refine gdTF ?_ | refine gdU ?_ | refine gaY ?_ | refine gaFT ?_ | refine gaTF ?_ | refine pickT ?_ | refine pickF ?_ | refine bi_lss_t (by omega) ?_ | refine bi_lss_f (by omega) ?_ | refine bi_add64 (by omega) ?_ | refine bi_sub64 (by omega) ?_ | refine bi_eql_t (by omega) ?_ | refine bi_eql_f (by omega) ?_ | refine bi_neq_t (by omega) ?_ | refine bi_neq_f (by omega) ?_ | refine bi_gtr_t (by omega) ?_ | refine bi_gtr_f (by omega) ?_ | refine bi_leq_t (by omega) ?_ | refine bi_leq_f (by omega) ?_ | refine bi_geq_t (by omega) ?_ | refine bi_geq_f (by omega) ?_ | refine bi_xt0 ?_ | refine bi_xt1 ?_ | refine bi_xt2 ?_ | refine bi_xt3 ?_ | refine bi_T ?_ | refine bi_F ?_ | refine bi_not ?_ | refine bi_and ?_ | refine bi_or ?_ | refine bi_xor ?_ | refine bi_shr (by omega) (by decide) ?_ | refine bi_shl (by omega) (by decide) ?_ | refine bi_quo64 (by omega) ?_ | refine bi_rem64 (by omega) ?_ | refine bi_mul64 (by omega) ?_ | refine bi_neg ?_ | refine bi_un_xor32 ?_ | refine bi_add ?_ | refine bi_sub ?_ | refine bi_mul ?_ | refine bi_quo (by decide) ?_ | refine bi_rem (by decide) ?_)
    refine st sz42 (own1 ho4) (by rw [h4'.blk.cell 0]; rfl) (h4'.blk.frozen 0) ?_
    obtain ⟨hR5, hT5⟩ := h4'.setL ho4 hf4' hgl (fun y hy => by
      rcases putL_mem hy with rfl | hy
      · exact hx4
      · exact h4'.el y hy)
    have hX5 := hX4.turns hT5 (by omega)
    have hT05 : Turns (fun k => k = g) w (w4.setCell ⟨g, 0, none⟩ v4) := (Turns.of_below hb04).trans (hT5.mono fun k _ e => .inl e)
    generalize w4.setCell ⟨g, 0, none⟩ v4 = w5 at *
    have y0 : w5.cell? ⟨w.heap.size, 0, none⟩ = some (.int .i64 x.cl) := hX5.cell 0
    have hs5 := hT05.size
    (repeat with_reducible first | refine fd o0 (by decide) ?_ | refine ld one3 y0 ?_ | refine nck ?_ | refine cdT ?_ | refine cdF ?_ | refine gdY ?_ | refine gdFT ?_ | refine gdTF ?_ | refine gdU ?_ | refine gaY ?_ | refine gaFT ?_ | refine gaTF ?_ | refine pickT ?_ | refine pickF ?_ | refine bi_lss_t (by omega) ?_ | refine bi_lss_f (by omega) ?_ | refine bi_add64 (by omega) ?_ | refine bi_sub64 (by omega) ?_ | refine bi_eql_t (by omega) ?_ | refine bi_eql_f (by omega) ?_ | refine bi_neq_t (by omega) ?_ | refine bi_neq_f (by omega) ?_ | refine bi_gtr_t (by omega) ?_ | refine bi_gtr_f (by omega) ?_ | refine bi_leq_t (by omega) ?_ | refine bi_leq_f (by omega) ?_ | refine bi_geq_t (by omega) ?_ | refine bi_geq_f (by omega) ?_ | refine bi_xt0 ?_ | refine bi_xt1 ?_ | refine bi_xt2 ?_ | refine bi_xt3 ?_ | refine bi_T ?_ | refine bi_F ?_ | refine bi_not ?_ | refine bi_and ?_ | refine bi_or ?_ | refine bi_xor ?_ | refine bi_shr (by omega) (by decide) ?_ | refine bi_shl (by omega) (by decide) ?_ | refine bi_quo64 (by omega) ?_ | refine bi_rem64 (by omega) ?_ | refine bi_mul64 (by omega) ?_ | refine bi_neg ?_ | refine bi_un_xor32 ?_ | refine bi_add ?_ | refine bi_sub ?_ | refine bi_mul ?_ | refine bi_quo (by decide) ?_ | refine bi_rem (by decide) ?_)
    refine (refKnown_spec x.cl hR5 (by rw [putL_len]; omega)).mono ?_
    rintro r6 w6 ⟨ho6, hf6, hb6⟩
    have hrd6 := ho6.rd
    obtain ⟨A6, c6, rfl, _, _⟩ := hrd6.slice
    rw [List.length_map] at hrd6 ⊢
    have h6 := hR5.below hb6
    have hX6 := hX5.below' hb6
    refine ln und51 ?_
    have hkl : (knownL (putL x L) x.cl).length ≤ L.length + 1 := by
      unfold knownL
      rw [List.length_map, ← putL_len x L]
      exact List.length_filter_le _ _
    refine bi_gtr_c (fun hbig => ?_) (fun hbig => ?_)
    · have hbig' : 4 < (knownL (putL x L) x.cl).length := by omega
      have hdr6 : Below w6.heap.size w6 w6.drew := (Below.refl _ _).drew
      have z0 : ∀ w', Below w6.heap.size w6 w' → w'.cell? ⟨w.heap.size, 0, none⟩ = some (.int .i64 x.cl) := fun w' h => (hX6.below' h).cell 0
      obtain ⟨a6, rfl, hca⟩ := Rd.atI hrd6 ((knownL (putL x L) x.cl).length - 5) (by omega)
      have z1 : ∀ w', Below w6.heap.size w6 w' → w'.cell? (a6.add ((knownL (putL x L) x.cl).length - 5)) = some (.int .i64 (knownL (putL x L) x.cl)[(knownL (putL x L) x.cl).length - 5]) := fun w' h => by rw [h.cell (World.block_lt_of_cell? _ _ hca), hca]
      (repeat with_reducible first | refine nck ?_ | refine cdT ?_ | refine cdF ?_ | refine gdY ?_ | refine gdFT ?_ | refine gdTF ?_ | refine gdU ?_ | refine gaY ?_ | refine gaFT ?_ | refine gaTF ?_ | refine pickT ?_ | refine pickF ?_ | refine bi_lss_t (by omega) ?_ | refine bi_lss_f (by omega) ?_ | refine bi_add64 (by omega) ?_ | refine bi_sub64 (by omega) ?_ | refine bi_eql_t (by omega) ?_ | refine bi_eql_f (by omega) ?_ | refine bi_neq_t (by omega) ?_ | refine bi_neq_f (by omega) ?_ | refine bi_gtr_t (by omega) ?_ | refine bi_gtr_f (by omega) ?_ | refine bi_leq_t (by omega) ?_ | refine bi_leq_f (by omega) ?_ | refine bi_geq_t (by omega) ?_ | refine bi_geq_f (by omega) ?_ | refine bi_xt0 ?_ | refine bi_xt1 ?_ | refine bi_xt2 ?_ | refine bi_xt3 ?_ | refine bi_T ?_ | refine bi_F ?_ | refine bi_not ?_ | refine bi_and ?_ | refine bi_or ?_ | refine bi_xor ?_ | refine bi_shr (by omega) (by decide) ?_ | refine bi_shl (by omega) (by decide) ?_ | refine bi_quo64 (by omega) ?_ | refine bi_rem64 (by omega) ?_ | refine bi_mul64 (by omega) ?_ | refine bi_neg ?_ | refine bi_un_xor32 ?_ | refine bi_add ?_ | refine bi_sub ?_ | refine bi_mul ?_ | refine bi_quo (by decide) ?_ | refine bi_rem (by decide) ?_)
      refine draw (Below w6.heap.size w6) hdr6 ?_
      (repeat with_reducible first | refine yfd o0 (by decide) ?_ | refine yl1 one3 z0 ?_ | refine ynck ?_ | refine nck ?_ | refine cdT ?_ | refine cdF ?_ | refine gdY ?_ | refine gdFT ?_ | refine gdTF ?_ | refine gdU ?_ | refine gaY ?_ | refine gaFT ?_ | refine gaTF ?_ | refine pickT ?_ | refine pickF ?_ | refine yi_lss_t (by omega) ?_ | refine yi_lss_f (by omega) ?_ | refine yi_add64 (by omega) ?_ | refine yi_sub64 (by omega) ?_ | refine yi_eql_t (by omega) ?_ | refine yi_eql_f (by omega) ?_ | refine yi_neq_t (by omega) ?_ | refine yi_neq_f (by omega) ?_ | refine yi_gtr_t (by omega) ?_ | refine yi_gtr_f (by omega) ?_ | refine yi_leq_t (by omega) ?_ | refine yi_leq_f (by omega) ?_ | refine yi_geq_t (by omega) ?_ | refine yi_geq_f (by omega) ?_ | refine yi_xt0 ?_ | refine yi_xt1 ?_ | refine yi_xt2 ?_ | refine yi_xt3 ?_ | refine yi_T ?_ | refine yi_F ?_ | refine yi_not ?_ | refine yi_and ?_ | refine yi_or ?_ | refine yi_xor ?_ | refine yi_shr (by omega) (by decide) ?_ | refine yi_shl (by omega) (by decide) ?_ | refine yi_quo64 (by omega) ?_ | refine yi_rem64 (by omega) ?_ | refine yi_mul64 (by omega) ?_ | refine yi_neg ?_ | refine yi_un_xor32 ?_ | refine yi_add ?_ | refine yi_sub ?_ | refine yi_mul ?_ | refine yi_quo (by decide) ?_ | refine yi_rem (by decide) ?_)
      refine yln und51 ?_
      refine yi_sub64 (by omega) ?_
      rw [show (((knownL (putL x L) x.cl).length : Nat) : Int) - 5 = (((knownL (putL x L) x.cl).length - 5 : Nat) : Int) from by omega]
      refine yix1 und51 sz3 _ (by omega) ?_
      refine yl1 one3 z1 ?_
      refine (raise_spec x.cl _ (h6.below hdr6) (by omega) (by rw [putL_len]; omega)).mono ?_
      rintro _ w7 ⟨vL7, vF7, h7, hT7⟩
      refine ⟨col (col c w.heap.size hu) w6.drew.heap.size hu, vL7, vF7, fun k hk => ?_, ?_, ((hT05.then_below hb6).then_below hdr6).trans (hT7.mono fun k _ e => .inl e)⟩
      · have hs6 := hb6.size
        rw [col_lt _ _ _ k (show k < w6.drew.heap.size from by show k < w6.heap.size; omega), col_lt _ _ _ k hk]
      · rw [putR, if_pos hbig']
        have e : (knownL (putL x L) x.cl).getD ((knownL (putL x L) x.cl).length - 5) 0 = (knownL (putL x L) x.cl)[(knownL (putL x L) x.cl).length - 5] := by
          rw [List.getD_eq_getElem?_getD, List.getElem?_eq_getElem (by omega)]; rfl
        rw [e]
        exact h7
    · (repeat with_reducible first | refine nck ?_ | refine cdT ?_ | refine cdF ?_ | refine gdY ?_ | refine gdFT ?_ | refine gdTF ?_ | refine gdU ?_ | refine gaY ?_ | refine gaFT ?_ | refine gaTF ?_ | refine pickT ?_ | refine pickF ?_ | refine bi_lss_t (by omega) ?_ | refine bi_lss_f (by omega) ?_ | refine bi_add64 (by omega) ?_ | refine bi_sub64 (by omega) ?_ | refine bi_eql_t (by omega) ?_ | refine bi_eql_f (by omega) ?_ | refine bi_neq_t (by omega) ?_ | refine bi_neq_f (by omega) ?_ | refine bi_gtr_t (by omega) ?_ | refine bi_gtr_f (by omega) ?_ | refine bi_leq_t (by omega) ?_ | refine bi_leq_f (by omega) ?_ | refine bi_geq_t (by omega) ?_ | refine bi_geq_f (by omega) ?_ | refine bi_xt0 ?_ | refine bi_xt1 ?_ | refine bi_xt2 ?_ | refine bi_xt3 ?_ | refine bi_T ?_ | refine bi_F ?_ | refine bi_not ?_ | refine bi_and ?_ | refine bi_or ?_ | refine bi_xor ?_ | refine bi_shr (by omega) (by decide) ?_ | refine bi_shl (by omega) (by decide) ?_ | refine bi_quo64 (by omega) ?_ | refine bi_rem64 (by omega) ?_ | refine bi_mul64 (by omega) ?_ | refine bi_neg ?_ | refine bi_un_xor32 ?_ | refine bi_add ?_ | refine bi_sub ?_ | refine bi_mul ?_ | refine bi_quo (by decide) ?_ | refine bi_rem (by decide) ?_)
      refine ⟨col c w.heap.size hu, v4, vF, col_lt _ _ _, ?_, hT05.then_below hb6⟩
      rw [putR, if_neg (by omega)]
      exact h6
end Go.Proofs.Ytmnaggdhkggjhaa.E
/- The reference's check of a record; its Keep. -/
namespace Go.Proofs.Ytmnaggdhkggjhaa.E
open Go Go.RowKit
set_option linter.unusedSimpArgs false
set_option linter.unusedVariables false

section
variable {P : Program} {K : Value → World → Prop} {w : World}
theorem seqT {t : TypeId} {x y : Operand} {a b : ByteArray} (h : a.data.toList = b.data.toList) (k : K (.bool true) w) : LiftP P (binS .eql t x y (.string a) (.string b)) K w := bi_seql (by rw [decide_eq_true h]; exact k)
theorem seqF {t : TypeId} {x y : Operand} {a b : ByteArray} (h : ¬ a.data.toList = b.data.toList) (k : K (.bool false) w) : LiftP P (binS .eql t x y (.string a) (.string b)) K w := bi_seql (by rw [decide_eq_false h]; exact k)
end
theorem refGood_spec (v : ValT) (w : World) : CallP Try.prog 56 #[.agg (valF v).toArray] (fun r w' => r = .bool (goodV v) ∧ Below w.heap.size w w') w := by
  refine ⟨S56.calls _ _ _ ?_⟩
  unfold S56
  refine bx ?_
  have hL : Blk (w.alloc (.cells (Value.agg (valF v).toArray).cells 36)) w.heap.size 36 (valF v).toArray := Blk.new w 36 _
  have ha := (Below.refl w.heap.size w).alloc (Nat.le_refl _) (.cells (Value.agg (valF v).toArray).cells 36)
  generalize w.alloc (.cells (Value.agg (valF v).toArray).cells 36) = w1 at *
  have c0 : w1.cell? ⟨w.heap.size, 0, none⟩ = some (.int .i64 v.1) := hL.cell 0
  have c1 : w1.cell? ⟨w.heap.size, 1, none⟩ = some (.int .i64 v.2.1) := hL.cell 1
  have c2 : w1.cell? ⟨w.heap.size, 2, none⟩ = some (.string v.2.2.1) := hL.cell 2
  by_cases k0 : v.1 = 0 <;> by_cases k1 : v.1 = 1 <;> by_cases k2 : v.1 = 2 <;> by_cases n0 : v.2.1 = 0 <;> by_cases s0 : v.2.2.1.data.toList = (⟨#[]⟩ : ByteArray).data.toList <;> by_cases l0 : ((v.2.2.1.size : Nat) : Int) ≤ 32
  all_goals first
    | (exfalso; omega)
    | ((repeat with_reducible first | refine fd v0 (by decide) ?_ | refine fd v1 (by decide) ?_ | refine fd v2 (by decide) ?_ | refine ld one3 c0 ?_ | refine ld one3 c1 ?_ | refine ld one9 c2 ?_ | refine seqT s0 ?_ | refine seqF s0 ?_ | refine lns und9 ?_ | refine nck ?_ | refine cdT ?_ | refine cdF ?_ | refine gdY ?_ | refine gdFT ?_ | refine gdTF ?_ | refine gdU ?_ | refine gaY ?_ | refine gaFT ?_ | refine gaTF ?_ | refine pickT ?_ | refine pickF ?_ | refine bi_lss_t (by omega) ?_ | refine bi_lss_f (by omega) ?_ | refine bi_add64 (by omega) ?_ | refine bi_sub64 (by omega) ?_ | refine bi_eql_t (by omega) ?_ | refine bi_eql_f (by omega) ?_ | refine bi_neq_t (by omega) ?_ | refine bi_neq_f (by omega) ?_ | refine bi_gtr_t (by omega) ?_ | refine bi_gtr_f (by omega) ?_ | refine bi_leq_t (by omega) ?_ | refine bi_leq_f (by omega) ?_ | refine bi_geq_t (by omega) ?_ | refine bi_geq_f (by omega) ?_ | refine bi_xt0 ?_ | refine bi_xt1 ?_ | refine bi_xt2 ?_ | refine bi_xt3 ?_ | refine bi_T ?_ | refine bi_F ?_ | refine bi_not ?_ | refine bi_and ?_ | refine bi_or ?_ | refine bi_xor ?_ | refine bi_shr (by omega) (by decide) ?_ | refine bi_shl (by omega) (by decide) ?_ | refine bi_quo64 (by omega) ?_ | refine bi_rem64 (by omega) ?_ | refine bi_mul64 (by omega) ?_ | refine bi_neg ?_ | refine bi_un_xor32 ?_ | refine bi_add ?_ | refine bi_sub ?_ | refine bi_mul ?_ | refine bi_quo (by decide) ?_ | refine bi_rem (by decide) ?_)
       refine ⟨?_, ha⟩
       have s1 := s0
       rw [← ByteArray.toList_eq, ← ByteArray.toList_eq] at s1
       simp only [goodV, sameV]
       simp_all
       try omega)
theorem refRow_spec (v : Value) (vs : List ValT) (w : World) (hv : Vals w [v] vs) (hl : vs.length ≤ 1000) :
    CallP Try.prog 50 #[v] (fun r w' => r = .int .i64 (if 4 < vs.length then 4 else if (vs.any fun x => !goodV x) then 1 else 0) ∧ Below w.heap.size w w') w := by
  obtain ⟨A, c, rfl, hc, hm⟩ := hv.slice
  refine ⟨S50.calls _ _ _ ?_⟩
  unfold S50
  refine ln und23 ?_
  refine bi_gtr_c (fun h => ?_) (fun h => ?_)
  · (repeat with_reducible first | refine nck ?_ | refine cdT ?_ | refine cdF ?_ | refine gdY ?_ | refine gdFT ?_ | refine gdTF ?_ | refine gdU ?_ | refine gaY ?_ | refine gaFT ?_ | refine gaTF ?_ | refine pickT ?_ | refine pickF ?_ | refine bi_lss_t (by omega) ?_ | refine bi_lss_f (by omega) ?_ | refine bi_add64 (by omega) ?_ | refine bi_sub64 (by omega) ?_ | refine bi_eql_t (by omega) ?_ | refine bi_eql_f (by omega) ?_ | refine bi_neq_t (by omega) ?_ | refine bi_neq_f (by omega) ?_ | refine bi_gtr_t (by omega) ?_ | refine bi_gtr_f (by omega) ?_ | refine bi_leq_t (by omega) ?_ | refine bi_leq_f (by omega) ?_ | refine bi_geq_t (by omega) ?_ | refine bi_geq_f (by omega) ?_ | refine bi_xt0 ?_ | refine bi_xt1 ?_ | refine bi_xt2 ?_ | refine bi_xt3 ?_ | refine bi_T ?_ | refine bi_F ?_ | refine bi_not ?_ | refine bi_and ?_ | refine bi_or ?_ | refine bi_xor ?_ | refine bi_shr (by omega) (by decide) ?_ | refine bi_shl (by omega) (by decide) ?_ | refine bi_quo64 (by omega) ?_ | refine bi_rem64 (by omega) ?_ | refine bi_mul64 (by omega) ?_ | refine bi_neg ?_ | refine bi_un_xor32 ?_ | refine bi_add ?_ | refine bi_sub ?_ | refine bi_mul ?_ | refine bi_quo (by decide) ?_ | refine bi_rem (by decide) ?_)
    exact ⟨by rw [if_pos (by omega)], Below.refl _ _⟩
  (repeat with_reducible first | refine nck ?_ | refine cdT ?_ | refine cdF ?_ | refine gdY ?_ | refine gdFT ?_ | refine gdTF ?_ | refine gdU ?_ | refine gaY ?_ | refine gaFT ?_ | refine gaTF ?_ | refine pickT ?_ | refine pickF ?_ | refine bi_lss_t (by omega) ?_ | refine bi_lss_f (by omega) ?_ | refine bi_add64 (by omega) ?_ | refine bi_sub64 (by omega) ?_ | refine bi_eql_t (by omega) ?_ | refine bi_eql_f (by omega) ?_ | refine bi_neq_t (by omega) ?_ | refine bi_neq_f (by omega) ?_ | refine bi_gtr_t (by omega) ?_ | refine bi_gtr_f (by omega) ?_ | refine bi_leq_t (by omega) ?_ | refine bi_leq_f (by omega) ?_ | refine bi_geq_t (by omega) ?_ | refine bi_geq_f (by omega) ?_ | refine bi_xt0 ?_ | refine bi_xt1 ?_ | refine bi_xt2 ?_ | refine bi_xt3 ?_ | refine bi_T ?_ | refine bi_F ?_ | refine bi_not ?_ | refine bi_and ?_ | refine bi_or ?_ | refine bi_xor ?_ | refine bi_shr (by omega) (by decide) ?_ | refine bi_shl (by omega) (by decide) ?_ | refine bi_quo64 (by omega) ?_ | refine bi_rem64 (by omega) ?_ | refine bi_mul64 (by omega) ?_ | refine bi_neg ?_ | refine bi_un_xor32 ?_ | refine bi_add ?_ | refine bi_sub ?_ | refine bi_mul ?_ | refine bi_quo (by decide) ?_ | refine bi_rem (by decide) ?_)
  refine LoopP.inv1 (fun iv w' => ∃ i : Nat, i ≤ vs.length ∧ iv = .int .i64 i ∧ (∀ x ∈ vs.take i, goodV x = true) ∧ Below w.heap.size w w') (fun iv _ => vs.length - (intOf iv).toNat) ⟨0, by omega, rfl, by simp, Below.refl _ _⟩ ?_
  rintro _ w1 ⟨i, hi, rfl, hall, hb1⟩ J hJ
  dsimp only [List.headD_cons, List.tail_cons]
  refine ln und23 ?_
  refine bi_lss_c (fun h => ?_) (fun h => ?_)
  · have hi' : i < vs.length := by omega
    obtain ⟨a, us, rfl, hus, hcell, hrd⟩ := rRow.at (keeps_Vals _ _ _ _ hb1 hv) i hi'
    have hue := (val_cells hrd).1
    subst hue
    (repeat with_reducible first | refine ixN und23 sz36 i hi' ?_ | refine nck ?_ | refine cdT ?_ | refine cdF ?_ | refine gdY ?_ | refine gdFT ?_ | refine gdTF ?_ | refine gdU ?_ | refine gaY ?_ | refine gaFT ?_ | refine gaTF ?_ | refine pickT ?_ | refine pickF ?_ | refine bi_lss_t (by omega) ?_ | refine bi_lss_f (by omega) ?_ | refine bi_add64 (by omega) ?_ | refine bi_sub64 (by omega) ?_ | refine bi_eql_t (by omega) ?_ | refine bi_eql_f (by omega) ?_ | refine bi_neq_t (by omega) ?_ | refine bi_neq_f (by omega) ?_ | refine bi_gtr_t (by omega) ?_ | refine bi_gtr_f (by omega) ?_ | refine bi_leq_t (by omega) ?_ | refine bi_leq_f (by omega) ?_ | refine bi_geq_t (by omega) ?_ | refine bi_geq_f (by omega) ?_ | refine bi_xt0 ?_ | refine bi_xt1 ?_ | refine bi_xt2 ?_ | refine bi_xt3 ?_ | refine bi_T ?_ | refine bi_F ?_ | refine bi_not ?_ | refine bi_and ?_ | refine bi_or ?_ | refine bi_xor ?_ | refine bi_shr (by omega) (by decide) ?_ | refine bi_shl (by omega) (by decide) ?_ | refine bi_quo64 (by omega) ?_ | refine bi_rem64 (by omega) ?_ | refine bi_mul64 (by omega) ?_ | refine bi_neg ?_ | refine bi_un_xor32 ?_ | refine bi_add ?_ | refine bi_sub ?_ | refine bi_mul ?_ | refine bi_quo (by decide) ?_ | refine bi_rem (by decide) ?_)
    refine ldR agg36 hcell (by exact sz36) ?_
    refine (refGood_spec vs[i] w1).mono ?_
    rintro _ w2 ⟨rfl, hb2⟩
    have hb2' := below_then hb1 hb2
    cases hg : goodV vs[i] with
    | true =>
      (repeat with_reducible first | refine nck ?_ | refine cdT ?_ | refine cdF ?_ | refine gdY ?_ | refine gdFT ?_ | refine gdTF ?_ | refine gdU ?_ | refine gaY ?_ | refine gaFT ?_ | refine gaTF ?_ | refine pickT ?_ | refine pickF ?_ | refine bi_lss_t (by omega) ?_ | refine bi_lss_f (by omega) ?_ | refine bi_add64 (by omega) ?_ | refine bi_sub64 (by omega) ?_ | refine bi_eql_t (by omega) ?_ | refine bi_eql_f (by omega) ?_ | refine bi_neq_t (by omega) ?_ | refine bi_neq_f (by omega) ?_ | refine bi_gtr_t (by omega) ?_ | refine bi_gtr_f (by omega) ?_ | refine bi_leq_t (by omega) ?_ | refine bi_leq_f (by omega) ?_ | refine bi_geq_t (by omega) ?_ | refine bi_geq_f (by omega) ?_ | refine bi_xt0 ?_ | refine bi_xt1 ?_ | refine bi_xt2 ?_ | refine bi_xt3 ?_ | refine bi_T ?_ | refine bi_F ?_ | refine bi_not ?_ | refine bi_and ?_ | refine bi_or ?_ | refine bi_xor ?_ | refine bi_shr (by omega) (by decide) ?_ | refine bi_shl (by omega) (by decide) ?_ | refine bi_quo64 (by omega) ?_ | refine bi_rem64 (by omega) ?_ | refine bi_mul64 (by omega) ?_ | refine bi_neg ?_ | refine bi_un_xor32 ?_ | refine bi_add ?_ | refine bi_sub ?_ | refine bi_mul ?_ | refine bi_quo (by decide) ?_ | refine bi_rem (by decide) ?_)
      refine hJ _ _ ⟨i + 1, by omega, by simp, fun x hx => ?_, hb2'⟩ (by simp [intOf]; omega)
      rw [List.take_succ_eq_append_getElem hi'] at hx
      rcases List.mem_append.1 hx with hx | hx
      · exact hall x hx
      · simp only [List.mem_cons, List.not_mem_nil, or_false] at hx
        subst hx; exact hg
    | false =>
      (repeat with_reducible first | refine nck ?_ | refine cdT ?_ | refine cdF ?_ | refine gdY ?_ | refine gdFT ?_ | refine gdTF ?_ | refine gdU ?_ | refine gaY ?_ | refine gaFT ?_ | refine gaTF ?_ | refine pickT ?_ | refine pickF ?_ | refine bi_lss_t (by omega) ?_ | refine bi_lss_f (by omega) ?_ | refine bi_add64 (by omega) ?_ | refine bi_sub64 (by omega) ?_ | refine bi_eql_t (by omega) ?_ | refine bi_eql_f (by omega) ?_ | refine bi_neq_t (by omega) ?_ | refine bi_neq_f (by omega) ?_ | refine bi_gtr_t (by omega) ?_ | refine bi_gtr_f (by omega) ?_ | refine bi_leq_t (by omega) ?_ | refine bi_leq_f (by omega) ?_ | refine bi_geq_t (by omega) ?_ | refine bi_geq_f (by omega) ?_ | refine bi_xt0 ?_ | refine bi_xt1 ?_ | refine bi_xt2 ?_ | refine bi_xt3 ?_ | refine bi_T ?_ | refine bi_F ?_ | refine bi_not ?_ | refine bi_and ?_ | refine bi_or ?_ | refine bi_xor ?_ | refine bi_shr (by omega) (by decide) ?_ | refine bi_shl (by omega) (by decide) ?_ | refine bi_quo64 (by omega) ?_ | refine bi_rem64 (by omega) ?_ | refine bi_mul64 (by omega) ?_ | refine bi_neg ?_ | refine bi_un_xor32 ?_ | refine bi_add ?_ | refine bi_sub ?_ | refine bi_mul ?_ | refine bi_quo (by decide) ?_ | refine bi_rem (by decide) ?_)
      refine ⟨?_, hb2'⟩
      rw [if_neg (by omega), if_pos (List.any_eq_true.2 ⟨vs[i], List.getElem_mem hi', by rw [hg]; rfl⟩)]
  · (repeat with_reducible first | refine nck ?_ | refine cdT ?_ | refine cdF ?_ | refine gdY ?_ | refine gdFT ?_ | refine gdTF ?_ | refine gdU ?_ | refine gaY ?_ | refine gaFT ?_ | refine gaTF ?_ | refine pickT ?_ | refine pickF ?_ | refine bi_lss_t (by omega) ?_ | refine bi_lss_f (by omega) ?_ | refine bi_add64 (by omega) ?_ | refine bi_sub64 (by omega) ?_ | refine bi_eql_t (by omega) ?_ | refine bi_eql_f (by omega) ?_ | refine bi_neq_t (by omega) ?_ | refine bi_neq_f (by omega) ?_ | refine bi_gtr_t (by omega) ?_ | refine bi_gtr_f (by omega) ?_ | refine bi_leq_t (by omega) ?_ | refine bi_leq_f (by omega) ?_ | refine bi_geq_t (by omega) ?_ | refine bi_geq_f (by omega) ?_ | refine bi_xt0 ?_ | refine bi_xt1 ?_ | refine bi_xt2 ?_ | refine bi_xt3 ?_ | refine bi_T ?_ | refine bi_F ?_ | refine bi_not ?_ | refine bi_and ?_ | refine bi_or ?_ | refine bi_xor ?_ | refine bi_shr (by omega) (by decide) ?_ | refine bi_shl (by omega) (by decide) ?_ | refine bi_quo64 (by omega) ?_ | refine bi_rem64 (by omega) ?_ | refine bi_mul64 (by omega) ?_ | refine bi_neg ?_ | refine bi_un_xor32 ?_ | refine bi_add ?_ | refine bi_sub ?_ | refine bi_mul ?_ | refine bi_quo (by decide) ?_ | refine bi_rem (by decide) ?_)
    have : i = vs.length := by omega
    subst this
    rw [List.take_length] at hall
    refine ⟨?_, hb1⟩
    rw [if_neg (by omega), if_neg]
    intro hh
    obtain ⟨x, hx, h2⟩ := List.any_eq_true.1 hh
    rw [hall x hx] at h2
    cases h2
theorem refCheck_spec (v : Value) (vs : List ValT) (w : World) (hv : Vals w [v] vs) (hl : vs.length ≤ 1000) :
    CallP Try.prog 33 #[v] (fun r w' => r = .int .i64 (chk vs) ∧ Below w.heap.size w w') w := by
  obtain ⟨A, c, rfl, hc, hm⟩ := hv.slice
  refine ⟨S33.calls _ _ _ ?_⟩
  unfold S33
  refine ln und23 ?_
  refine bi_eql_c (fun h => ?_) (fun h => ?_)
  · (repeat with_reducible first | refine nck ?_ | refine cdT ?_ | refine cdF ?_ | refine gdY ?_ | refine gdFT ?_ | refine gdTF ?_ | refine gdU ?_ | refine gaY ?_ | refine gaFT ?_ | refine gaTF ?_ | refine pickT ?_ | refine pickF ?_ | refine bi_lss_t (by omega) ?_ | refine bi_lss_f (by omega) ?_ | refine bi_add64 (by omega) ?_ | refine bi_sub64 (by omega) ?_ | refine bi_eql_t (by omega) ?_ | refine bi_eql_f (by omega) ?_ | refine bi_neq_t (by omega) ?_ | refine bi_neq_f (by omega) ?_ | refine bi_gtr_t (by omega) ?_ | refine bi_gtr_f (by omega) ?_ | refine bi_leq_t (by omega) ?_ | refine bi_leq_f (by omega) ?_ | refine bi_geq_t (by omega) ?_ | refine bi_geq_f (by omega) ?_ | refine bi_xt0 ?_ | refine bi_xt1 ?_ | refine bi_xt2 ?_ | refine bi_xt3 ?_ | refine bi_T ?_ | refine bi_F ?_ | refine bi_not ?_ | refine bi_and ?_ | refine bi_or ?_ | refine bi_xor ?_ | refine bi_shr (by omega) (by decide) ?_ | refine bi_shl (by omega) (by decide) ?_ | refine bi_quo64 (by omega) ?_ | refine bi_rem64 (by omega) ?_ | refine bi_mul64 (by omega) ?_ | refine bi_neg ?_ | refine bi_un_xor32 ?_ | refine bi_add ?_ | refine bi_sub ?_ | refine bi_mul ?_ | refine bi_quo (by decide) ?_ | refine bi_rem (by decide) ?_)
    refine ⟨?_, Below.refl _ _⟩
    have : vs.length = 0 := by omega
    simp [chk, firstP, this]
  · (repeat with_reducible first | refine nck ?_ | refine cdT ?_ | refine cdF ?_ | refine gdY ?_ | refine gdFT ?_ | refine gdTF ?_ | refine gdU ?_ | refine gaY ?_ | refine gaFT ?_ | refine gaTF ?_ | refine pickT ?_ | refine pickF ?_ | refine bi_lss_t (by omega) ?_ | refine bi_lss_f (by omega) ?_ | refine bi_add64 (by omega) ?_ | refine bi_sub64 (by omega) ?_ | refine bi_eql_t (by omega) ?_ | refine bi_eql_f (by omega) ?_ | refine bi_neq_t (by omega) ?_ | refine bi_neq_f (by omega) ?_ | refine bi_gtr_t (by omega) ?_ | refine bi_gtr_f (by omega) ?_ | refine bi_leq_t (by omega) ?_ | refine bi_leq_f (by omega) ?_ | refine bi_geq_t (by omega) ?_ | refine bi_geq_f (by omega) ?_ | refine bi_xt0 ?_ | refine bi_xt1 ?_ | refine bi_xt2 ?_ | refine bi_xt3 ?_ | refine bi_T ?_ | refine bi_F ?_ | refine bi_not ?_ | refine bi_and ?_ | refine bi_or ?_ | refine bi_xor ?_ | refine bi_shr (by omega) (by decide) ?_ | refine bi_shl (by omega) (by decide) ?_ | refine bi_quo64 (by omega) ?_ | refine bi_rem64 (by omega) ?_ | refine bi_mul64 (by omega) ?_ | refine bi_neg ?_ | refine bi_un_xor32 ?_ | refine bi_add ?_ | refine bi_sub ?_ | refine bi_mul ?_ | refine bi_quo (by decide) ?_ | refine bi_rem (by decide) ?_)
    refine (refRow_spec _ vs w hv hl).mono ?_
    rintro _ w1 ⟨rfl, hb1⟩
    refine ⟨?_, hb1⟩
    have h0 : ¬ vs.length = 0 := by omega
    have h00 : vs ≠ [] := fun e => h0 (by rw [e]; rfl)
    congr 1
    by_cases h4 : 4 < vs.length
    · simp [chk, firstP, h00, h4]
    · cases hb : (vs.any fun x => !goodV x) <;> simp [chk, firstP, h00, h4, hb]
end Go.Proofs.Ytmnaggdhkggjhaa.E
