import Derived.Test.YtcihbjempijhpaaM9
import Derived.Test.YtcihbjempijhpaaM7
import Derived.Test.YtcihbjempijhpaaS3
/- Calls on both tables at once: do. -/
namespace Go.Proofs.Ytcihbjempijhpaa.E
open Go Go.RowKit
set_option linter.unusedSimpArgs false
set_option linter.unusedVariables false

structure Act3 where
  kind : Int
  id : Int
  r : Rg
def acF (a : Act3) : List Value := [.int .i64 a.kind, .int .i64 a.id, tS a.r.1, tS a.r.2]
def acV (a : Act3) : Value := .agg #[.int .i64 a.kind, .int .i64 a.id, tS a.r.1, tS a.r.2]
theorem a0 : fofs Try.prog 46 0 = some (0, 1) := by kernel_rfl
theorem a1 : fofs Try.prog 46 1 = some (1, 1) := by kernel_rfl
theorem a2 : fofs Try.prog 46 2 = some (2, 2) := by kernel_rfl
def actV (le : Int) (V : LkV) (a : Act3) : LkV := if a.kind = 1 then takeV le V a.id a.r else if a.kind = 2 then renewV le V a.id else if a.kind = 3 then freeV V a.id else if a.kind = 4 then tickV V else if a.kind = 5 then loseV V a.r else V
theorem ok_act {n : Nat} {le : Int} {V : LkV} (h : LkOk n le V) (hle : 1 ≤ le) (a : Act3) : LkOk (n + 1) le (actV le V a) := by
  unfold actV
  split
  · exact ok_take h hle _ _
  · split
    · exact (ok_renew h hle _).mono (by omega)
    · split
      · exact (ok_free h _).mono (by omega)
      · split
        · exact (ok_tick h).mono (by omega)
        · split
          · exact ok_lose h _
          · exact h.mono (by omega)
/-- Both tables. -/
structure Both (c : Nat → Nat) (w : World) (g1 g2 : Nat) (le1 le2 : Int) (n1 n2 : Nat) (V1 V2 : LkV) : Prop where
  one : LkS 1 c w g1 le1 n1 V1
  two : RfS 2 c w g2 le2 n2 V2
/-- What both may turn. -/
def D12 (c : Nat → Nat) : Nat → Prop := fun k => c k % 1000 = 1 ∨ c k = 2
def LeftB (c : Nat → Nat) (w : World) (g1 g2 : Nat) (le1 le2 : Int) (n1 n2 : Nat) (V1 V2 : LkV) (w' : World) : Prop := ∃ c', (∀ k, k < w.heap.size → c' k = c k) ∧ Both c' w' g1 g2 le1 le2 n1 n2 V1 V2 ∧ Turns (D12 c) w w'
section
variable {c c' : Nat → Nat} {w w' w'' : World} {g1 g2 : Nat} {le1 le2 : Int} {n1 n2 : Nat} {V1 V2 U1 U2 : LkV}
theorem Both.below (h : Both c w g1 g2 le1 le2 n1 n2 V1 V2) (hb : Below w.heap.size w w') : Both c w' g1 g2 le1 le2 n1 n2 V1 V2 := ⟨h.one.below hb, h.two.below hb⟩
theorem Both.left {m : Nat} (h : Both c w g1 g2 le1 le2 n1 n2 V1 V2) (hl : LeftL 1 c w g1 le1 m U1 w') : LeftB c w g1 g2 le1 le2 m n2 U1 V2 w' := by
  obtain ⟨c', hc, hS, hT⟩ := hl
  refine ⟨c', hc, ⟨hS, (h.two.re hc).turns hT.cut fun k hk => ?_⟩, hT.mono fun k _ e => .inl e⟩
  rw [hc k hk.2]
  have : c k % 1000 = 1 := hk.1
  omega
theorem Both.right {m : Nat} (h : Both c w g1 g2 le1 le2 n1 n2 V1 V2) (hl : LeftR 2 c w g2 le2 m U2 w') : LeftB c w g1 g2 le1 le2 n1 m V1 U2 w' := by
  obtain ⟨c', hc, hS, hT⟩ := hl
  refine ⟨c', hc, ⟨(h.one.re hc).turns hT.cut fun k hk => ?_, hS⟩, hT.mono fun k _ e => .inr e⟩
  rw [hc k hk.2]
  have : c k = 2 := hk.1
  omega
theorem LeftB.trans {m1 m2 : Nat} (h : LeftB c w g1 g2 le1 le2 n1 n2 V1 V2 w') (k : ∀ c', (∀ k, k < w.heap.size → c' k = c k) → Both c' w' g1 g2 le1 le2 n1 n2 V1 V2 → LeftB c' w' g1 g2 le1 le2 m1 m2 U1 U2 w'') : LeftB c w g1 g2 le1 le2 m1 m2 U1 U2 w'' := by
  obtain ⟨c1, h1, hB, hT⟩ := h
  obtain ⟨c2, h2, hB2, hT2⟩ := k c1 h1 hB
  refine ⟨c2, fun j hj => (h2 j (Nat.lt_of_lt_of_le hj hT.size)).trans (h1 j hj), hB2, hT.trans (hT2.mono fun j _ e => ?_)⟩
  rcases Nat.lt_or_ge j w.heap.size with hlt | hge
  · left
    have := h1 j hlt
    unfold D12 at *
    rw [← this]; exact e
  · exact .inr hge
/-- What went before a call on both. -/
theorem LeftB.next {m1 m2 : Nat} (hT : Turns (D12 c) w w') (hc : ∀ k, k < w.heap.size → c' k = c k) (h : LeftB c' w' g1 g2 le1 le2 m1 m2 U1 U2 w'') : LeftB c w g1 g2 le1 le2 m1 m2 U1 U2 w'' := by
  obtain ⟨c2, h2, hB2, hT2⟩ := h
  refine ⟨c2, fun j hj => (h2 j (Nat.lt_of_lt_of_le hj hT.size)).trans (hc j hj), hB2, hT.trans (hT2.mono fun j _ e => ?_)⟩
  rcases Nat.lt_or_ge j w.heap.size with hlt | hge
  · left
    have := hc j hlt
    unfold D12 at *
    rw [← this]; exact e
  · exact .inr hge
/-- First the implementation's table, then the reference's. -/
theorem Both.two_calls {m1 m2 : Nat} (h : Both c w g1 g2 le1 le2 n1 n2 V1 V2) (hl : LeftL 1 c w g1 le1 m1 U1 w') : ∃ c', (∀ k, k < w.heap.size → c' k = c k) ∧ Turns (D12 c) w w' ∧ Both c' w' g1 g2 le1 le2 m1 n2 U1 V2 ∧ ∀ w'', LeftR 2 c' w' g2 le2 m2 U2 w'' → LeftB c w g1 g2 le1 le2 m1 m2 U1 U2 w'' := by
  obtain ⟨c', hc, hB, hT⟩ := h.left hl
  exact ⟨c', hc, hT, hB, fun w'' hr => LeftB.next hT hc (hB.right hr)⟩
theorem LeftB.below (h : LeftB c w g1 g2 le1 le2 n1 n2 V1 V2 w') (hb : Below w'.heap.size w' w'') : LeftB c w g1 g2 le1 le2 n1 n2 V1 V2 w'' := by
  obtain ⟨c1, h1, hB, hT⟩ := h
  exact ⟨c1, h1, hB.below hb, hT.then_below hb⟩
theorem LeftB.mono {m1 m2 : Nat} (h : LeftB c w g1 g2 le1 le2 n1 n2 V1 V2 w') (h1 : n1 ≤ m1) (h2 : n2 ≤ m2) : LeftB c w g1 g2 le1 le2 m1 m2 V1 V2 w' := by
  obtain ⟨c1, q1, hB, hT⟩ := h
  exact ⟨c1, q1, ⟨hB.one.mono h1, hB.two.mono h2⟩, hT⟩
theorem Both.of_below (h : Both c w g1 g2 le1 le2 n1 n2 V1 V2) (hb : Below w.heap.size w w') : LeftB c w g1 g2 le1 le2 n1 n2 V1 V2 w' := ⟨c, fun _ _ => rfl, h.below hb, Turns.of_below hb⟩
end
end Go.Proofs.Ytcihbjempijhpaa.E
/- do. -/
namespace Go.Proofs.Ytcihbjempijhpaa.E
open Go Go.RowKit
set_option linter.unusedSimpArgs false
set_option linter.unusedVariables false

section
variable {c c1 : Nat → Nat} {w w1 w' w'' : World} {g1 g2 : Nat} {le1 le2 : Int} {n1 n2 : Nat} {V1 V2 U1 U2 : LkV}
theorem LeftB.start (hb : Below w.heap.size w w1) (hc : ∀ k, k < w.heap.size → c1 k = c k) (h : LeftB c1 w1 g1 g2 le1 le2 n1 n2 V1 V2 w') : LeftB c w g1 g2 le1 le2 n1 n2 V1 V2 w' := LeftB.next (Turns.of_below hb) hc h
theorem Both.re (h : Both c w g1 g2 le1 le2 n1 n2 V1 V2) (hc : ∀ k, k < w.heap.size → c1 k = c k) : Both c1 w g1 g2 le1 le2 n1 n2 V1 V2 := ⟨h.one.re hc, h.two.re hc⟩
end
def acC (a : Act3) : Array Value := #[.int .i64 a.kind, .int .i64 a.id, tS a.r.1, tS a.r.2]
theorem do31 {c : Nat → Nat} {w : World} {g1 g2 : Nat} {le1 le2 : Int} {n1 n2 : Nat} {V1 V2 : LkV} (a : Act3) (h : Both c w g1 g2 le1 le2 n1 n2 V1 V2) (hok1 : LkOk 400 le1 V1) (hok2 : LkOk 400 le2 V2) (hn1 : n1 ≤ 10000) (hn2 : n2 ≤ 10000) (hid : a.id ≤ 9223372036854775807) (hle : le1 ≤ 9223372036854775807) :
    CallP Try.prog 31 #[.pointer (some ⟨g1, 0, none⟩), .pointer (some ⟨g2, 0, none⟩), acV a] (fun u w' => ∃ b : Bool, u = .bool b ∧ (V1 = V2 → b = true) ∧ LeftB c w g1 g2 le1 le2 (n1 + 1) (n2 + 1) (actV le1 V1 a) (actV le2 V2 a) w') w := by
  have hok1' : LkOk 500 le1 V1 := hok1.mono (by omega)
  have hok2' : LkOk 500 le2 V2 := hok2.mono (by omega)
  refine ⟨S31.calls _ _ _ _ _ ?_⟩
  unfold S31 acV
  refine bxB ?_
  intro g5 w1 hg5 hA1 hb1
  have hcc := col_lt c w.heap.size 0
  have hB1 := (h.re hcc).below hb1
  have c5 : col c w.heap.size 0 g5 = 0 := col_ge _ _ _ (by omega)
  generalize col c w.heap.size 0 = c1 at *
  have keepL : ∀ {w2 w3 : World} {U : LkV} {m : Nat}, Blk w2 g5 46 (acC a) → LeftL 1 c1 w2 g1 le1 m U w3 → Blk w3 g5 46 (acC a) := fun hb ⟨_, _, _, hT⟩ => hb.turns hT (by show ¬ c1 g5 % 1000 = 1; rw [c5]; decide)
  refine JoinP.cut (fun xs w' => xs = [] ∧ LeftB c1 w1 g1 g2 le1 le2 (n1 + 1) (n2 + 1) (actV le1 V1 a) (actV le2 V2 a) w') (fun J hJ => ?_) (fun xs w' hI => ?_)
  · have d0 : w1.cell? ⟨g5, 0, none⟩ = some (.int .i64 a.kind) := hA1.cell 0
    (repeat with_reducible first | refine fd a0 (by decide) ?_ | refine ld one3' d0 ?_ | refine nck ?_ | refine cdT ?_ | refine cdF ?_ | refine gdY ?_ | refine gdFT ?_ | refine gdTF ?_ | refine gdU ?_ | refine gaY ?_ | refine gaFT ?_ | refine gaTF ?_ | refine pickT ?_ | refine pickF ?_ | refine bi_lss_t (by omega) ?_ | refine bi_lss_f (by omega) ?_ | refine bi_add64 (by omega) ?_ | refine bi_sub64 (by omega) ?_ | refine bi_eql_t (by omega) ?_ | refine bi_eql_f (by omega) ?_ | refine bi_neq_t (by omega) ?_ | refine bi_neq_f (by omega) ?_ | refine bi_gtr_t (by omega) ?_ | refine bi_gtr_f (by omega) ?_ | refine bi_leq_t (by omega) ?_ | refine bi_leq_f (by omega) ?_ | refine bi_geq_t (by omega) ?_ | refine bi_geq_f (by omega) ?_ | refine bi_xt0 ?_ | refine bi_xt1 ?_ | refine bi_xt2 ?_ | refine bi_xt3 ?_ | refine bi_T ?_ | refine bi_F ?_ | refine bi_not ?_ | refine bi_and ?_ | refine bi_or ?_ | refine bi_xor ?_ | refine bi_shr (by omega) (by decide) ?_ | refine bi_shl (by omega) (by decide) ?_ | refine bi_quo64 (by omega) ?_ | refine bi_rem64 (by omega) ?_ | refine bi_mul64 (by omega) ?_ | refine bi_neg ?_ | refine bi_un_xor32 ?_ | refine bi_add ?_ | refine bi_sub ?_ | refine bi_mul ?_ | refine bi_quo (by decide) ?_ | refine bi_rem (by decide) ?_)
    have hdr : Below w1.heap.size w1 w1.drew := (Below.refl _ _).drew
    let S : World → Prop := fun w' => Blk w' g5 46 (acC a)
    have s1 : ∀ w', S w' → w'.cell? ⟨g5, 1, none⟩ = some (.int .i64 a.id) := fun w' h => h.cell 1
    have s2 : ∀ w', S w' → ∀ j u, (rgF a.r)[j]? = some u → w'.cell? ((⟨g5, 2, none⟩ : Addr).add j) = some u := fun w' h j u hu => by
      rw [add0]
      have := h.cell (2 + j)
      rw [this]
      match j, hu with
      | 0, hu => exact hu
      | 1, hu => exact hu
      | n + 2, hu => simp [rgF] at hu
    have hsz : (Try.prog.info? 23).map (·.size) = some (rgF a.r).length := by rw [sz23]; rfl
    have hA2 : S w1.drew := hA1.below' hdr
    have hB2 := hB1.below hdr
    have hb2 := below_then hb1 hdr
    have keepR : ∀ {c3 : Nat → Nat} {w2 w3 : World} {U : LkV} {m : Nat}, c3 g5 = 0 → Blk w2 g5 46 (acC a) → LeftR 2 c3 w2 g2 le2 m U w3 → Blk w3 g5 46 (acC a) := fun e hb ⟨_, _, _, hT⟩ => hb.turns hT (by show ¬ _ = 2; rw [e]; decide)
    refine bi_eql_c (fun hk => ?_) (fun hk1 => ?_)
    · (repeat with_reducible first | refine nck ?_ | refine cdT ?_ | refine cdF ?_ | refine gdY ?_ | refine gdFT ?_ | refine gdTF ?_ | refine gdU ?_ | refine gaY ?_ | refine gaFT ?_ | refine gaTF ?_ | refine pickT ?_ | refine pickF ?_ | refine bi_lss_t (by omega) ?_ | refine bi_lss_f (by omega) ?_ | refine bi_add64 (by omega) ?_ | refine bi_sub64 (by omega) ?_ | refine bi_eql_t (by omega) ?_ | refine bi_eql_f (by omega) ?_ | refine bi_neq_t (by omega) ?_ | refine bi_neq_f (by omega) ?_ | refine bi_gtr_t (by omega) ?_ | refine bi_gtr_f (by omega) ?_ | refine bi_leq_t (by omega) ?_ | refine bi_leq_f (by omega) ?_ | refine bi_geq_t (by omega) ?_ | refine bi_geq_f (by omega) ?_ | refine bi_xt0 ?_ | refine bi_xt1 ?_ | refine bi_xt2 ?_ | refine bi_xt3 ?_ | refine bi_T ?_ | refine bi_F ?_ | refine bi_not ?_ | refine bi_and ?_ | refine bi_or ?_ | refine bi_xor ?_ | refine bi_shr (by omega) (by decide) ?_ | refine bi_shl (by omega) (by decide) ?_ | refine bi_quo64 (by omega) ?_ | refine bi_rem64 (by omega) ?_ | refine bi_mul64 (by omega) ?_ | refine bi_neg ?_ | refine bi_un_xor32 ?_ | refine bi_add ?_ | refine bi_sub ?_ | refine bi_mul ?_ | refine bi_quo (by decide) ?_ | refine bi_rem (by decide) ?_)
      refine draw S hA2 ?_
      (repeat with_reducible first | refine yfd a1 (by decide) ?_ | refine yl1 one3' s1 ?_ | refine yfd a2 (by decide) ?_ | refine yldR agg23 s2 hsz ?_ | refine ynck ?_ | refine nck ?_ | refine cdT ?_ | refine cdF ?_ | refine gdY ?_ | refine gdFT ?_ | refine gdTF ?_ | refine gdU ?_ | refine gaY ?_ | refine gaFT ?_ | refine gaTF ?_ | refine pickT ?_ | refine pickF ?_ | refine yi_lss_t (by omega) ?_ | refine yi_lss_f (by omega) ?_ | refine yi_add64 (by omega) ?_ | refine yi_sub64 (by omega) ?_ | refine yi_eql_t (by omega) ?_ | refine yi_eql_f (by omega) ?_ | refine yi_neq_t (by omega) ?_ | refine yi_neq_f (by omega) ?_ | refine yi_gtr_t (by omega) ?_ | refine yi_gtr_f (by omega) ?_ | refine yi_leq_t (by omega) ?_ | refine yi_leq_f (by omega) ?_ | refine yi_geq_t (by omega) ?_ | refine yi_geq_f (by omega) ?_ | refine yi_xt0 ?_ | refine yi_xt1 ?_ | refine yi_xt2 ?_ | refine yi_xt3 ?_ | refine yi_T ?_ | refine yi_F ?_ | refine yi_not ?_ | refine yi_and ?_ | refine yi_or ?_ | refine yi_xor ?_ | refine yi_shr (by omega) (by decide) ?_ | refine yi_shl (by omega) (by decide) ?_ | refine yi_quo64 (by omega) ?_ | refine yi_rem64 (by omega) ?_ | refine yi_mul64 (by omega) ?_ | refine yi_neg ?_ | refine yi_un_xor32 ?_ | refine yi_add ?_ | refine yi_sub ?_ | refine yi_mul ?_ | refine yi_quo (by decide) ?_ | refine yi_rem (by decide) ?_)
      refine act ?_
      refine (Take28 a.id a.r hid hB2.one hok1' (by omega)).mono ?_
      rintro _ w3 ⟨rfl, hL⟩
      have hA3 : S w3 := keepL hA2 hL
      refine ⟨S, hA3, fun _ h => h, ?_⟩
      obtain ⟨c3, hc3, hT3, hB3, hend⟩ := hB2.two_calls (m2 := n2 + 1) (U2 := takeV le2 V2 a.id a.r) hL
      have c53 : c3 g5 = 0 := (hc3 g5 hA2.lt).trans c5
      refine act ?_
      refine (refTake56 a.id a.r hB3.two hok2 (by omega)).mono ?_
      rintro _ w4 ⟨rfl, hR⟩
      have hA4 : S w4 := keepR c53 hA3 hR
      refine ⟨S, hA4, fun _ h => h, ?_⟩
      (repeat with_reducible first | refine ynck ?_ | refine nck ?_ | refine cdT ?_ | refine cdF ?_ | refine gdY ?_ | refine gdFT ?_ | refine gdTF ?_ | refine gdU ?_ | refine gaY ?_ | refine gaFT ?_ | refine gaTF ?_ | refine pickT ?_ | refine pickF ?_ | refine yi_lss_t (by omega) ?_ | refine yi_lss_f (by omega) ?_ | refine yi_add64 (by omega) ?_ | refine yi_sub64 (by omega) ?_ | refine yi_eql_t (by omega) ?_ | refine yi_eql_f (by omega) ?_ | refine yi_neq_t (by omega) ?_ | refine yi_neq_f (by omega) ?_ | refine yi_gtr_t (by omega) ?_ | refine yi_gtr_f (by omega) ?_ | refine yi_leq_t (by omega) ?_ | refine yi_leq_f (by omega) ?_ | refine yi_geq_t (by omega) ?_ | refine yi_geq_f (by omega) ?_ | refine yi_xt0 ?_ | refine yi_xt1 ?_ | refine yi_xt2 ?_ | refine yi_xt3 ?_ | refine yi_T ?_ | refine yi_F ?_ | refine yi_not ?_ | refine yi_and ?_ | refine yi_or ?_ | refine yi_xor ?_ | refine yi_shr (by omega) (by decide) ?_ | refine yi_shl (by omega) (by decide) ?_ | refine yi_quo64 (by omega) ?_ | refine yi_rem64 (by omega) ?_ | refine yi_mul64 (by omega) ?_ | refine yi_neg ?_ | refine yi_un_xor32 ?_ | refine yi_add ?_ | refine yi_sub ?_ | refine yi_mul ?_ | refine yi_quo (by decide) ?_ | refine yi_rem (by decide) ?_)
      refine ⟨true, rfl, fun _ => rfl, ?_⟩
      have hf := (hend w4 hR).start hb2 hcc
      unfold actV
      rw [if_pos hk, if_pos hk]
      exact hf
    (repeat with_reducible first | refine nck ?_ | refine cdT ?_ | refine cdF ?_ | refine gdY ?_ | refine gdFT ?_ | refine gdTF ?_ | refine gdU ?_ | refine gaY ?_ | refine gaFT ?_ | refine gaTF ?_ | refine pickT ?_ | refine pickF ?_ | refine bi_lss_t (by omega) ?_ | refine bi_lss_f (by omega) ?_ | refine bi_add64 (by omega) ?_ | refine bi_sub64 (by omega) ?_ | refine bi_eql_t (by omega) ?_ | refine bi_eql_f (by omega) ?_ | refine bi_neq_t (by omega) ?_ | refine bi_neq_f (by omega) ?_ | refine bi_gtr_t (by omega) ?_ | refine bi_gtr_f (by omega) ?_ | refine bi_leq_t (by omega) ?_ | refine bi_leq_f (by omega) ?_ | refine bi_geq_t (by omega) ?_ | refine bi_geq_f (by omega) ?_ | refine bi_xt0 ?_ | refine bi_xt1 ?_ | refine bi_xt2 ?_ | refine bi_xt3 ?_ | refine bi_T ?_ | refine bi_F ?_ | refine bi_not ?_ | refine bi_and ?_ | refine bi_or ?_ | refine bi_xor ?_ | refine bi_shr (by omega) (by decide) ?_ | refine bi_shl (by omega) (by decide) ?_ | refine bi_quo64 (by omega) ?_ | refine bi_rem64 (by omega) ?_ | refine bi_mul64 (by omega) ?_ | refine bi_neg ?_ | refine bi_un_xor32 ?_ | refine bi_add ?_ | refine bi_sub ?_ | refine bi_mul ?_ | refine bi_quo (by decide) ?_ | refine bi_rem (by decide) ?_)
    refine bi_eql_c (fun hk => ?_) (fun hk2 => ?_)
    · (repeat with_reducible first | refine nck ?_ | refine cdT ?_ | refine cdF ?_ | refine gdY ?_ | refine gdFT ?_ | refine gdTF ?_ | refine gdU ?_ | refine gaY ?_ | refine gaFT ?_ | refine gaTF ?_ | refine pickT ?_ | refine pickF ?_ | refine bi_lss_t (by omega) ?_ | refine bi_lss_f (by omega) ?_ | refine bi_add64 (by omega) ?_ | refine bi_sub64 (by omega) ?_ | refine bi_eql_t (by omega) ?_ | refine bi_eql_f (by omega) ?_ | refine bi_neq_t (by omega) ?_ | refine bi_neq_f (by omega) ?_ | refine bi_gtr_t (by omega) ?_ | refine bi_gtr_f (by omega) ?_ | refine bi_leq_t (by omega) ?_ | refine bi_leq_f (by omega) ?_ | refine bi_geq_t (by omega) ?_ | refine bi_geq_f (by omega) ?_ | refine bi_xt0 ?_ | refine bi_xt1 ?_ | refine bi_xt2 ?_ | refine bi_xt3 ?_ | refine bi_T ?_ | refine bi_F ?_ | refine bi_not ?_ | refine bi_and ?_ | refine bi_or ?_ | refine bi_xor ?_ | refine bi_shr (by omega) (by decide) ?_ | refine bi_shl (by omega) (by decide) ?_ | refine bi_quo64 (by omega) ?_ | refine bi_rem64 (by omega) ?_ | refine bi_mul64 (by omega) ?_ | refine bi_neg ?_ | refine bi_un_xor32 ?_ | refine bi_add ?_ | refine bi_sub ?_ | refine bi_mul ?_ | refine bi_quo (by decide) ?_ | refine bi_rem (by decide) ?_)
      refine draw S hA2 ?_
      (repeat with_reducible first | refine yfd a1 (by decide) ?_ | refine yl1 one3' s1 ?_ | refine ynck ?_ | refine nck ?_ | refine cdT ?_ | refine cdF ?_ | refine gdY ?_ | refine gdFT ?_ | refine gdTF ?_ | refine gdU ?_ | refine gaY ?_ | refine gaFT ?_ | refine gaTF ?_ | refine pickT ?_ | refine pickF ?_ | refine yi_lss_t (by omega) ?_ | refine yi_lss_f (by omega) ?_ | refine yi_add64 (by omega) ?_ | refine yi_sub64 (by omega) ?_ | refine yi_eql_t (by omega) ?_ | refine yi_eql_f (by omega) ?_ | refine yi_neq_t (by omega) ?_ | refine yi_neq_f (by omega) ?_ | refine yi_gtr_t (by omega) ?_ | refine yi_gtr_f (by omega) ?_ | refine yi_leq_t (by omega) ?_ | refine yi_leq_f (by omega) ?_ | refine yi_geq_t (by omega) ?_ | refine yi_geq_f (by omega) ?_ | refine yi_xt0 ?_ | refine yi_xt1 ?_ | refine yi_xt2 ?_ | refine yi_xt3 ?_ | refine yi_T ?_ | refine yi_F ?_ | refine yi_not ?_ | refine yi_and ?_ | refine yi_or ?_ | refine yi_xor ?_ | refine yi_shr (by omega) (by decide) ?_ | refine yi_shl (by omega) (by decide) ?_ | refine yi_quo64 (by omega) ?_ | refine yi_rem64 (by omega) ?_ | refine yi_mul64 (by omega) ?_ | refine yi_neg ?_ | refine yi_un_xor32 ?_ | refine yi_add ?_ | refine yi_sub ?_ | refine yi_mul ?_ | refine yi_quo (by decide) ?_ | refine yi_rem (by decide) ?_)
      refine act ?_
      refine (Renew54 a.id hB2.one).mono ?_
      rintro _ w3 ⟨rfl, hL⟩
      have hA3 : S w3 := keepL hA2 hL
      refine ⟨S, hA3, fun _ h => h, ?_⟩
      obtain ⟨c3, hc3, hT3, hB3, hend⟩ := hB2.two_calls (m2 := n2) (U2 := renewV le2 V2 a.id) hL
      have c53 : c3 g5 = 0 := (hc3 g5 hA2.lt).trans c5
      refine act ?_
      refine (refRenew57 a.id hB3.two (by omega)).mono ?_
      rintro _ w4 ⟨rfl, hR⟩
      have hA4 : S w4 := keepR c53 hA3 hR
      refine ⟨S, hA4, fun _ h => h, ?_⟩
      refine yi_beql und4 ?_
      refine ⟨_, rfl, fun e => by rw [e]; simp, ?_⟩
      have hf := ((hend w4 hR).start hb2 hcc).mono (Nat.le_succ n1) (Nat.le_succ n2)
      unfold actV
      rw [if_neg hk1, if_neg hk1, if_pos hk, if_pos hk]
      exact hf
    (repeat with_reducible first | refine nck ?_ | refine cdT ?_ | refine cdF ?_ | refine gdY ?_ | refine gdFT ?_ | refine gdTF ?_ | refine gdU ?_ | refine gaY ?_ | refine gaFT ?_ | refine gaTF ?_ | refine pickT ?_ | refine pickF ?_ | refine bi_lss_t (by omega) ?_ | refine bi_lss_f (by omega) ?_ | refine bi_add64 (by omega) ?_ | refine bi_sub64 (by omega) ?_ | refine bi_eql_t (by omega) ?_ | refine bi_eql_f (by omega) ?_ | refine bi_neq_t (by omega) ?_ | refine bi_neq_f (by omega) ?_ | refine bi_gtr_t (by omega) ?_ | refine bi_gtr_f (by omega) ?_ | refine bi_leq_t (by omega) ?_ | refine bi_leq_f (by omega) ?_ | refine bi_geq_t (by omega) ?_ | refine bi_geq_f (by omega) ?_ | refine bi_xt0 ?_ | refine bi_xt1 ?_ | refine bi_xt2 ?_ | refine bi_xt3 ?_ | refine bi_T ?_ | refine bi_F ?_ | refine bi_not ?_ | refine bi_and ?_ | refine bi_or ?_ | refine bi_xor ?_ | refine bi_shr (by omega) (by decide) ?_ | refine bi_shl (by omega) (by decide) ?_ | refine bi_quo64 (by omega) ?_ | refine bi_rem64 (by omega) ?_ | refine bi_mul64 (by omega) ?_ | refine bi_neg ?_ | refine bi_un_xor32 ?_ | refine bi_add ?_ | refine bi_sub ?_ | refine bi_mul ?_ | refine bi_quo (by decide) ?_ | refine bi_rem (by decide) ?_)
    refine bi_eql_c (fun hk => ?_) (fun hk3 => ?_)
    · (repeat with_reducible first | refine nck ?_ | refine cdT ?_ | refine cdF ?_ | refine gdY ?_ | refine gdFT ?_ | refine gdTF ?_ | refine gdU ?_ | refine gaY ?_ | refine gaFT ?_ | refine gaTF ?_ | refine pickT ?_ | refine pickF ?_ | refine bi_lss_t (by omega) ?_ | refine bi_lss_f (by omega) ?_ | refine bi_add64 (by omega) ?_ | refine bi_sub64 (by omega) ?_ | refine bi_eql_t (by omega) ?_ | refine bi_eql_f (by omega) ?_ | refine bi_neq_t (by omega) ?_ | refine bi_neq_f (by omega) ?_ | refine bi_gtr_t (by omega) ?_ | refine bi_gtr_f (by omega) ?_ | refine bi_leq_t (by omega) ?_ | refine bi_leq_f (by omega) ?_ | refine bi_geq_t (by omega) ?_ | refine bi_geq_f (by omega) ?_ | refine bi_xt0 ?_ | refine bi_xt1 ?_ | refine bi_xt2 ?_ | refine bi_xt3 ?_ | refine bi_T ?_ | refine bi_F ?_ | refine bi_not ?_ | refine bi_and ?_ | refine bi_or ?_ | refine bi_xor ?_ | refine bi_shr (by omega) (by decide) ?_ | refine bi_shl (by omega) (by decide) ?_ | refine bi_quo64 (by omega) ?_ | refine bi_rem64 (by omega) ?_ | refine bi_mul64 (by omega) ?_ | refine bi_neg ?_ | refine bi_un_xor32 ?_ | refine bi_add ?_ | refine bi_sub ?_ | refine bi_mul ?_ | refine bi_quo (by decide) ?_ | refine bi_rem (by decide) ?_)
      refine draw S hA2 ?_
      (repeat with_reducible first | refine yfd a1 (by decide) ?_ | refine yl1 one3' s1 ?_ | refine ynck ?_ | refine nck ?_ | refine cdT ?_ | refine cdF ?_ | refine gdY ?_ | refine gdFT ?_ | refine gdTF ?_ | refine gdU ?_ | refine gaY ?_ | refine gaFT ?_ | refine gaTF ?_ | refine pickT ?_ | refine pickF ?_ | refine yi_lss_t (by omega) ?_ | refine yi_lss_f (by omega) ?_ | refine yi_add64 (by omega) ?_ | refine yi_sub64 (by omega) ?_ | refine yi_eql_t (by omega) ?_ | refine yi_eql_f (by omega) ?_ | refine yi_neq_t (by omega) ?_ | refine yi_neq_f (by omega) ?_ | refine yi_gtr_t (by omega) ?_ | refine yi_gtr_f (by omega) ?_ | refine yi_leq_t (by omega) ?_ | refine yi_leq_f (by omega) ?_ | refine yi_geq_t (by omega) ?_ | refine yi_geq_f (by omega) ?_ | refine yi_xt0 ?_ | refine yi_xt1 ?_ | refine yi_xt2 ?_ | refine yi_xt3 ?_ | refine yi_T ?_ | refine yi_F ?_ | refine yi_not ?_ | refine yi_and ?_ | refine yi_or ?_ | refine yi_xor ?_ | refine yi_shr (by omega) (by decide) ?_ | refine yi_shl (by omega) (by decide) ?_ | refine yi_quo64 (by omega) ?_ | refine yi_rem64 (by omega) ?_ | refine yi_mul64 (by omega) ?_ | refine yi_neg ?_ | refine yi_un_xor32 ?_ | refine yi_add ?_ | refine yi_sub ?_ | refine yi_mul ?_ | refine yi_quo (by decide) ?_ | refine yi_rem (by decide) ?_)
      refine act ?_
      refine (Free34 a.id hB2.one).mono ?_
      rintro _ w3 ⟨rfl, hL⟩
      have hA3 : S w3 := keepL hA2 hL
      refine ⟨S, hA3, fun _ h => h, ?_⟩
      obtain ⟨c3, hc3, hT3, hB3, hend⟩ := hB2.two_calls (m2 := n2) (U2 := freeV V2 a.id) hL
      have c53 : c3 g5 = 0 := (hc3 g5 hA2.lt).trans c5
      refine act ?_
      refine (refFree58 a.id hB3.two (by omega)).mono ?_
      rintro _ w4 ⟨rfl, hR⟩
      have hA4 : S w4 := keepR c53 hA3 hR
      refine ⟨S, hA4, fun _ h => h, ?_⟩
      refine yi_beql und4 ?_
      refine ⟨_, rfl, fun e => by rw [e]; simp, ?_⟩
      have hf := ((hend w4 hR).start hb2 hcc).mono (Nat.le_succ n1) (Nat.le_succ n2)
      unfold actV
      rw [if_neg hk1, if_neg hk1, if_neg hk2, if_neg hk2, if_pos hk, if_pos hk]
      exact hf
    (repeat with_reducible first | refine nck ?_ | refine cdT ?_ | refine cdF ?_ | refine gdY ?_ | refine gdFT ?_ | refine gdTF ?_ | refine gdU ?_ | refine gaY ?_ | refine gaFT ?_ | refine gaTF ?_ | refine pickT ?_ | refine pickF ?_ | refine bi_lss_t (by omega) ?_ | refine bi_lss_f (by omega) ?_ | refine bi_add64 (by omega) ?_ | refine bi_sub64 (by omega) ?_ | refine bi_eql_t (by omega) ?_ | refine bi_eql_f (by omega) ?_ | refine bi_neq_t (by omega) ?_ | refine bi_neq_f (by omega) ?_ | refine bi_gtr_t (by omega) ?_ | refine bi_gtr_f (by omega) ?_ | refine bi_leq_t (by omega) ?_ | refine bi_leq_f (by omega) ?_ | refine bi_geq_t (by omega) ?_ | refine bi_geq_f (by omega) ?_ | refine bi_xt0 ?_ | refine bi_xt1 ?_ | refine bi_xt2 ?_ | refine bi_xt3 ?_ | refine bi_T ?_ | refine bi_F ?_ | refine bi_not ?_ | refine bi_and ?_ | refine bi_or ?_ | refine bi_xor ?_ | refine bi_shr (by omega) (by decide) ?_ | refine bi_shl (by omega) (by decide) ?_ | refine bi_quo64 (by omega) ?_ | refine bi_rem64 (by omega) ?_ | refine bi_mul64 (by omega) ?_ | refine bi_neg ?_ | refine bi_un_xor32 ?_ | refine bi_add ?_ | refine bi_sub ?_ | refine bi_mul ?_ | refine bi_quo (by decide) ?_ | refine bi_rem (by decide) ?_)
    refine bi_eql_c (fun hk => ?_) (fun hk4 => ?_)
    · (repeat with_reducible first | refine nck ?_ | refine cdT ?_ | refine cdF ?_ | refine gdY ?_ | refine gdFT ?_ | refine gdTF ?_ | refine gdU ?_ | refine gaY ?_ | refine gaFT ?_ | refine gaTF ?_ | refine pickT ?_ | refine pickF ?_ | refine bi_lss_t (by omega) ?_ | refine bi_lss_f (by omega) ?_ | refine bi_add64 (by omega) ?_ | refine bi_sub64 (by omega) ?_ | refine bi_eql_t (by omega) ?_ | refine bi_eql_f (by omega) ?_ | refine bi_neq_t (by omega) ?_ | refine bi_neq_f (by omega) ?_ | refine bi_gtr_t (by omega) ?_ | refine bi_gtr_f (by omega) ?_ | refine bi_leq_t (by omega) ?_ | refine bi_leq_f (by omega) ?_ | refine bi_geq_t (by omega) ?_ | refine bi_geq_f (by omega) ?_ | refine bi_xt0 ?_ | refine bi_xt1 ?_ | refine bi_xt2 ?_ | refine bi_xt3 ?_ | refine bi_T ?_ | refine bi_F ?_ | refine bi_not ?_ | refine bi_and ?_ | refine bi_or ?_ | refine bi_xor ?_ | refine bi_shr (by omega) (by decide) ?_ | refine bi_shl (by omega) (by decide) ?_ | refine bi_quo64 (by omega) ?_ | refine bi_rem64 (by omega) ?_ | refine bi_mul64 (by omega) ?_ | refine bi_neg ?_ | refine bi_un_xor32 ?_ | refine bi_add ?_ | refine bi_sub ?_ | refine bi_mul ?_ | refine bi_quo (by decide) ?_ | refine bi_rem (by decide) ?_)
      refine (Tick33 hB1.one (fun id L left e => by
        obtain ⟨_, _, _, _, q1, q2⟩ := hok1 id L left e
        omega)).mono ?_
      rintro _ w3 hL
      obtain ⟨c3, hc3, hT3, hB3, hend⟩ := hB1.two_calls (m2 := n2 + 1) (U2 := tickV V2) hL
      refine (refTick59 hB3.two hok2' (by omega)).mono ?_
      rintro _ w4 hR
      refine hJ _ _ ⟨rfl, ?_⟩
      have hf := (hend w4 hR).mono (Nat.le_succ n1) (Nat.le_refl _)
      unfold actV
      rw [if_neg hk1, if_neg hk1, if_neg hk2, if_neg hk2, if_neg hk3, if_neg hk3, if_pos hk, if_pos hk]
      exact hf
    (repeat with_reducible first | refine nck ?_ | refine cdT ?_ | refine cdF ?_ | refine gdY ?_ | refine gdFT ?_ | refine gdTF ?_ | refine gdU ?_ | refine gaY ?_ | refine gaFT ?_ | refine gaTF ?_ | refine pickT ?_ | refine pickF ?_ | refine bi_lss_t (by omega) ?_ | refine bi_lss_f (by omega) ?_ | refine bi_add64 (by omega) ?_ | refine bi_sub64 (by omega) ?_ | refine bi_eql_t (by omega) ?_ | refine bi_eql_f (by omega) ?_ | refine bi_neq_t (by omega) ?_ | refine bi_neq_f (by omega) ?_ | refine bi_gtr_t (by omega) ?_ | refine bi_gtr_f (by omega) ?_ | refine bi_leq_t (by omega) ?_ | refine bi_leq_f (by omega) ?_ | refine bi_geq_t (by omega) ?_ | refine bi_geq_f (by omega) ?_ | refine bi_xt0 ?_ | refine bi_xt1 ?_ | refine bi_xt2 ?_ | refine bi_xt3 ?_ | refine bi_T ?_ | refine bi_F ?_ | refine bi_not ?_ | refine bi_and ?_ | refine bi_or ?_ | refine bi_xor ?_ | refine bi_shr (by omega) (by decide) ?_ | refine bi_shl (by omega) (by decide) ?_ | refine bi_quo64 (by omega) ?_ | refine bi_rem64 (by omega) ?_ | refine bi_mul64 (by omega) ?_ | refine bi_neg ?_ | refine bi_un_xor32 ?_ | refine bi_add ?_ | refine bi_sub ?_ | refine bi_mul ?_ | refine bi_quo (by decide) ?_ | refine bi_rem (by decide) ?_)
    refine bi_eql_c (fun hk => ?_) (fun hk5 => ?_)
    · (repeat with_reducible first | refine fd a2 (by decide) ?_ | refine nck ?_ | refine cdT ?_ | refine cdF ?_ | refine gdY ?_ | refine gdFT ?_ | refine gdTF ?_ | refine gdU ?_ | refine gaY ?_ | refine gaFT ?_ | refine gaTF ?_ | refine pickT ?_ | refine pickF ?_ | refine bi_lss_t (by omega) ?_ | refine bi_lss_f (by omega) ?_ | refine bi_add64 (by omega) ?_ | refine bi_sub64 (by omega) ?_ | refine bi_eql_t (by omega) ?_ | refine bi_eql_f (by omega) ?_ | refine bi_neq_t (by omega) ?_ | refine bi_neq_f (by omega) ?_ | refine bi_gtr_t (by omega) ?_ | refine bi_gtr_f (by omega) ?_ | refine bi_leq_t (by omega) ?_ | refine bi_leq_f (by omega) ?_ | refine bi_geq_t (by omega) ?_ | refine bi_geq_f (by omega) ?_ | refine bi_xt0 ?_ | refine bi_xt1 ?_ | refine bi_xt2 ?_ | refine bi_xt3 ?_ | refine bi_T ?_ | refine bi_F ?_ | refine bi_not ?_ | refine bi_and ?_ | refine bi_or ?_ | refine bi_xor ?_ | refine bi_shr (by omega) (by decide) ?_ | refine bi_shl (by omega) (by decide) ?_ | refine bi_quo64 (by omega) ?_ | refine bi_rem64 (by omega) ?_ | refine bi_mul64 (by omega) ?_ | refine bi_neg ?_ | refine bi_un_xor32 ?_ | refine bi_add ?_ | refine bi_sub ?_ | refine bi_mul ?_ | refine bi_quo (by decide) ?_ | refine bi_rem (by decide) ?_)
      refine ldR (us := rgF a.r) agg23 (s2 w1 hA1) hsz ?_
      refine (Lose36 a.r hB1.one hok1').mono ?_
      rintro _ w3 hL
      have hA3 : S w3 := keepL hA1 hL
      obtain ⟨c3, hc3, hT3, hB3, hend⟩ := hB1.two_calls (m2 := n2) (U2 := loseV V2 a.r) hL
      (repeat with_reducible first | refine fd a2 (by decide) ?_ | refine nck ?_ | refine cdT ?_ | refine cdF ?_ | refine gdY ?_ | refine gdFT ?_ | refine gdTF ?_ | refine gdU ?_ | refine gaY ?_ | refine gaFT ?_ | refine gaTF ?_ | refine pickT ?_ | refine pickF ?_ | refine bi_lss_t (by omega) ?_ | refine bi_lss_f (by omega) ?_ | refine bi_add64 (by omega) ?_ | refine bi_sub64 (by omega) ?_ | refine bi_eql_t (by omega) ?_ | refine bi_eql_f (by omega) ?_ | refine bi_neq_t (by omega) ?_ | refine bi_neq_f (by omega) ?_ | refine bi_gtr_t (by omega) ?_ | refine bi_gtr_f (by omega) ?_ | refine bi_leq_t (by omega) ?_ | refine bi_leq_f (by omega) ?_ | refine bi_geq_t (by omega) ?_ | refine bi_geq_f (by omega) ?_ | refine bi_xt0 ?_ | refine bi_xt1 ?_ | refine bi_xt2 ?_ | refine bi_xt3 ?_ | refine bi_T ?_ | refine bi_F ?_ | refine bi_not ?_ | refine bi_and ?_ | refine bi_or ?_ | refine bi_xor ?_ | refine bi_shr (by omega) (by decide) ?_ | refine bi_shl (by omega) (by decide) ?_ | refine bi_quo64 (by omega) ?_ | refine bi_rem64 (by omega) ?_ | refine bi_mul64 (by omega) ?_ | refine bi_neg ?_ | refine bi_un_xor32 ?_ | refine bi_add ?_ | refine bi_sub ?_ | refine bi_mul ?_ | refine bi_quo (by decide) ?_ | refine bi_rem (by decide) ?_)
      refine ldR (us := rgF a.r) agg23 (s2 w3 hA3) hsz ?_
      refine (refLose60 a.r hB3.two hok2' (by omega)).mono ?_
      rintro _ w4 hR
      refine hJ _ _ ⟨rfl, ?_⟩
      have hf := (hend w4 hR).mono (Nat.le_succ n1) (Nat.le_succ n2)
      unfold actV
      rw [if_neg hk1, if_neg hk1, if_neg hk2, if_neg hk2, if_neg hk3, if_neg hk3, if_neg hk4, if_neg hk4, if_pos hk, if_pos hk]
      exact hf
    · (repeat with_reducible first | refine nck ?_ | refine cdT ?_ | refine cdF ?_ | refine gdY ?_ | refine gdFT ?_ | refine gdTF ?_ | refine gdU ?_ | refine gaY ?_ | refine gaFT ?_ | refine gaTF ?_ | refine pickT ?_ | refine pickF ?_ | refine bi_lss_t (by omega) ?_ | refine bi_lss_f (by omega) ?_ | refine bi_add64 (by omega) ?_ | refine bi_sub64 (by omega) ?_ | refine bi_eql_t (by omega) ?_ | refine bi_eql_f (by omega) ?_ | refine bi_neq_t (by omega) ?_ | refine bi_neq_f (by omega) ?_ | refine bi_gtr_t (by omega) ?_ | refine bi_gtr_f (by omega) ?_ | refine bi_leq_t (by omega) ?_ | refine bi_leq_f (by omega) ?_ | refine bi_geq_t (by omega) ?_ | refine bi_geq_f (by omega) ?_ | refine bi_xt0 ?_ | refine bi_xt1 ?_ | refine bi_xt2 ?_ | refine bi_xt3 ?_ | refine bi_T ?_ | refine bi_F ?_ | refine bi_not ?_ | refine bi_and ?_ | refine bi_or ?_ | refine bi_xor ?_ | refine bi_shr (by omega) (by decide) ?_ | refine bi_shl (by omega) (by decide) ?_ | refine bi_quo64 (by omega) ?_ | refine bi_rem64 (by omega) ?_ | refine bi_mul64 (by omega) ?_ | refine bi_neg ?_ | refine bi_un_xor32 ?_ | refine bi_add ?_ | refine bi_sub ?_ | refine bi_mul ?_ | refine bi_quo (by decide) ?_ | refine bi_rem (by decide) ?_)
      refine hJ _ _ ⟨rfl, ?_⟩
      have hf := (hB1.of_below (Below.refl _ _)).mono (Nat.le_succ n1) (Nat.le_succ n2)
      unfold actV
      rw [if_neg hk1, if_neg hk1, if_neg hk2, if_neg hk2, if_neg hk3, if_neg hk3, if_neg hk4, if_neg hk4, if_neg hk5, if_neg hk5]
      exact hf
  · obtain ⟨rfl, hB⟩ := hI
    exact ⟨true, rfl, fun _ => rfl, hB.start hb1 hcc⟩
end Go.Proofs.Ytcihbjempijhpaa.E
/- SameInts; light; awake. -/
namespace Go.Proofs.Ytcihbjempijhpaa.E
open Go Go.RowKit
set_option linter.unusedSimpArgs false
set_option linter.unusedVariables false

theorem sameInts40 (v v' : Value) (l : List Int) (w : World) (hv : Rd w v (l.map (Value.int .i64))) (hv' : Rd w v' (l.map (Value.int .i64))) (hl : l.length ≤ 100000) : CallP Try.prog 40 #[v, v'] (fun r w' => r = .bool true ∧ Below w.heap.size w w') w := by
  obtain ⟨A, c, rfl, hc, hm⟩ := hv.slice
  obtain ⟨A', c', rfl, hc', hm'⟩ := hv'.slice
  have hlen : (l.map (Value.int .i64)).length = l.length := List.length_map _
  rw [hlen] at hv hv' ⊢
  refine ⟨S40.calls _ _ _ _ ?_⟩
  unfold S40
  refine ln und37' ?_
  refine ln und37' ?_
  refine bi_neq_c (fun h => absurd rfl h) (fun _ => ?_)
  (repeat with_reducible first | refine nck ?_ | refine cdT ?_ | refine cdF ?_ | refine gdY ?_ | refine gdFT ?_ | refine gdTF ?_ | refine gdU ?_ | refine gaY ?_ | refine gaFT ?_ | refine gaTF ?_ | refine pickT ?_ | refine pickF ?_ | refine bi_lss_t (by omega) ?_ | refine bi_lss_f (by omega) ?_ | refine bi_add64 (by omega) ?_ | refine bi_sub64 (by omega) ?_ | refine bi_eql_t (by omega) ?_ | refine bi_eql_f (by omega) ?_ | refine bi_neq_t (by omega) ?_ | refine bi_neq_f (by omega) ?_ | refine bi_gtr_t (by omega) ?_ | refine bi_gtr_f (by omega) ?_ | refine bi_leq_t (by omega) ?_ | refine bi_leq_f (by omega) ?_ | refine bi_geq_t (by omega) ?_ | refine bi_geq_f (by omega) ?_ | refine bi_xt0 ?_ | refine bi_xt1 ?_ | refine bi_xt2 ?_ | refine bi_xt3 ?_ | refine bi_T ?_ | refine bi_F ?_ | refine bi_not ?_ | refine bi_and ?_ | refine bi_or ?_ | refine bi_xor ?_ | refine bi_shr (by omega) (by decide) ?_ | refine bi_shl (by omega) (by decide) ?_ | refine bi_quo64 (by omega) ?_ | refine bi_rem64 (by omega) ?_ | refine bi_mul64 (by omega) ?_ | refine bi_neg ?_ | refine bi_un_xor32 ?_ | refine bi_add ?_ | refine bi_sub ?_ | refine bi_mul ?_ | refine bi_quo (by decide) ?_ | refine bi_rem (by decide) ?_)
  refine LoopP.inv1 (fun iv w' => ∃ k : Nat, k ≤ l.length ∧ iv = .int .i64 k ∧ Below w.heap.size w w') (fun iv _ => l.length - (intOf iv).toNat) ⟨0, by omega, rfl, Below.refl _ _⟩ ?_
  rintro _ w1 ⟨k, hk, rfl, hb1⟩ J hJ
  dsimp only [List.headD_cons, List.tail_cons]
  refine ln und37' ?_
  refine bi_lss_c (fun h => ?_) (fun h => ?_)
  · have hk' : k < l.length := by omega
    have hdr : Below w1.heap.size w1 w1.drew := (Below.refl _ _).drew
    obtain ⟨a, rfl, hca⟩ := Rd.atI (hv.below hb1) k hk'
    obtain ⟨a', rfl, hca'⟩ := Rd.atI (hv'.below hb1) k hk'
    have keep : ∀ {p : Addr} {u : Value}, w1.cell? p = some u → ∀ w', Below w1.heap.size w1 w' → w'.cell? p = some u := fun h w' hw => by rw [hw.cell (World.block_lt_of_cell? _ _ h), h]
    (repeat with_reducible first | refine nck ?_ | refine cdT ?_ | refine cdF ?_ | refine gdY ?_ | refine gdFT ?_ | refine gdTF ?_ | refine gdU ?_ | refine gaY ?_ | refine gaFT ?_ | refine gaTF ?_ | refine pickT ?_ | refine pickF ?_ | refine bi_lss_t (by omega) ?_ | refine bi_lss_f (by omega) ?_ | refine bi_add64 (by omega) ?_ | refine bi_sub64 (by omega) ?_ | refine bi_eql_t (by omega) ?_ | refine bi_eql_f (by omega) ?_ | refine bi_neq_t (by omega) ?_ | refine bi_neq_f (by omega) ?_ | refine bi_gtr_t (by omega) ?_ | refine bi_gtr_f (by omega) ?_ | refine bi_leq_t (by omega) ?_ | refine bi_leq_f (by omega) ?_ | refine bi_geq_t (by omega) ?_ | refine bi_geq_f (by omega) ?_ | refine bi_xt0 ?_ | refine bi_xt1 ?_ | refine bi_xt2 ?_ | refine bi_xt3 ?_ | refine bi_T ?_ | refine bi_F ?_ | refine bi_not ?_ | refine bi_and ?_ | refine bi_or ?_ | refine bi_xor ?_ | refine bi_shr (by omega) (by decide) ?_ | refine bi_shl (by omega) (by decide) ?_ | refine bi_quo64 (by omega) ?_ | refine bi_rem64 (by omega) ?_ | refine bi_mul64 (by omega) ?_ | refine bi_neg ?_ | refine bi_un_xor32 ?_ | refine bi_add ?_ | refine bi_sub ?_ | refine bi_mul ?_ | refine bi_quo (by decide) ?_ | refine bi_rem (by decide) ?_)
    refine draw (Below w1.heap.size w1) hdr ?_
    refine yix1 und37' sz3' k hk' ?_
    refine yl1 one3' (keep hca) ?_
    refine yix1 und37' sz3' k hk' ?_
    refine yl1 one3' (keep hca') ?_
    (repeat with_reducible first | refine ynck ?_ | refine nck ?_ | refine cdT ?_ | refine cdF ?_ | refine gdY ?_ | refine gdFT ?_ | refine gdTF ?_ | refine gdU ?_ | refine gaY ?_ | refine gaFT ?_ | refine gaTF ?_ | refine pickT ?_ | refine pickF ?_ | refine yi_lss_t (by omega) ?_ | refine yi_lss_f (by omega) ?_ | refine yi_add64 (by omega) ?_ | refine yi_sub64 (by omega) ?_ | refine yi_eql_t (by omega) ?_ | refine yi_eql_f (by omega) ?_ | refine yi_neq_t (by omega) ?_ | refine yi_neq_f (by omega) ?_ | refine yi_gtr_t (by omega) ?_ | refine yi_gtr_f (by omega) ?_ | refine yi_leq_t (by omega) ?_ | refine yi_leq_f (by omega) ?_ | refine yi_geq_t (by omega) ?_ | refine yi_geq_f (by omega) ?_ | refine yi_xt0 ?_ | refine yi_xt1 ?_ | refine yi_xt2 ?_ | refine yi_xt3 ?_ | refine yi_T ?_ | refine yi_F ?_ | refine yi_not ?_ | refine yi_and ?_ | refine yi_or ?_ | refine yi_xor ?_ | refine yi_shr (by omega) (by decide) ?_ | refine yi_shl (by omega) (by decide) ?_ | refine yi_quo64 (by omega) ?_ | refine yi_rem64 (by omega) ?_ | refine yi_mul64 (by omega) ?_ | refine yi_neg ?_ | refine yi_un_xor32 ?_ | refine yi_add ?_ | refine yi_sub ?_ | refine yi_mul ?_ | refine yi_quo (by decide) ?_ | refine yi_rem (by decide) ?_)
    (repeat with_reducible first | refine nck ?_ | refine cdT ?_ | refine cdF ?_ | refine gdY ?_ | refine gdFT ?_ | refine gdTF ?_ | refine gdU ?_ | refine gaY ?_ | refine gaFT ?_ | refine gaTF ?_ | refine pickT ?_ | refine pickF ?_ | refine bi_lss_t (by omega) ?_ | refine bi_lss_f (by omega) ?_ | refine bi_add64 (by omega) ?_ | refine bi_sub64 (by omega) ?_ | refine bi_eql_t (by omega) ?_ | refine bi_eql_f (by omega) ?_ | refine bi_neq_t (by omega) ?_ | refine bi_neq_f (by omega) ?_ | refine bi_gtr_t (by omega) ?_ | refine bi_gtr_f (by omega) ?_ | refine bi_leq_t (by omega) ?_ | refine bi_leq_f (by omega) ?_ | refine bi_geq_t (by omega) ?_ | refine bi_geq_f (by omega) ?_ | refine bi_xt0 ?_ | refine bi_xt1 ?_ | refine bi_xt2 ?_ | refine bi_xt3 ?_ | refine bi_T ?_ | refine bi_F ?_ | refine bi_not ?_ | refine bi_and ?_ | refine bi_or ?_ | refine bi_xor ?_ | refine bi_shr (by omega) (by decide) ?_ | refine bi_shl (by omega) (by decide) ?_ | refine bi_quo64 (by omega) ?_ | refine bi_rem64 (by omega) ?_ | refine bi_mul64 (by omega) ?_ | refine bi_neg ?_ | refine bi_un_xor32 ?_ | refine bi_add ?_ | refine bi_sub ?_ | refine bi_mul ?_ | refine bi_quo (by decide) ?_ | refine bi_rem (by decide) ?_)
    exact hJ _ _ ⟨k + 1, by omega, by simp, below_then hb1 hdr⟩ (by simp [intOf]; omega)
  · (repeat with_reducible first | refine nck ?_ | refine cdT ?_ | refine cdF ?_ | refine gdY ?_ | refine gdFT ?_ | refine gdTF ?_ | refine gdU ?_ | refine gaY ?_ | refine gaFT ?_ | refine gaTF ?_ | refine pickT ?_ | refine pickF ?_ | refine bi_lss_t (by omega) ?_ | refine bi_lss_f (by omega) ?_ | refine bi_add64 (by omega) ?_ | refine bi_sub64 (by omega) ?_ | refine bi_eql_t (by omega) ?_ | refine bi_eql_f (by omega) ?_ | refine bi_neq_t (by omega) ?_ | refine bi_neq_f (by omega) ?_ | refine bi_gtr_t (by omega) ?_ | refine bi_gtr_f (by omega) ?_ | refine bi_leq_t (by omega) ?_ | refine bi_leq_f (by omega) ?_ | refine bi_geq_t (by omega) ?_ | refine bi_geq_f (by omega) ?_ | refine bi_xt0 ?_ | refine bi_xt1 ?_ | refine bi_xt2 ?_ | refine bi_xt3 ?_ | refine bi_T ?_ | refine bi_F ?_ | refine bi_not ?_ | refine bi_and ?_ | refine bi_or ?_ | refine bi_xor ?_ | refine bi_shr (by omega) (by decide) ?_ | refine bi_shl (by omega) (by decide) ?_ | refine bi_quo64 (by omega) ?_ | refine bi_rem64 (by omega) ?_ | refine bi_mul64 (by omega) ?_ | refine bi_neg ?_ | refine bi_un_xor32 ?_ | refine bi_add ?_ | refine bi_sub ?_ | refine bi_mul ?_ | refine bi_quo (by decide) ?_ | refine bi_rem (by decide) ?_)
    exact ⟨rfl, hb1⟩
abbrev ActT := Int × Int × RgT × Unit
abbrev rActT : Rdr ActT := rCons 1 (rI .i64) (rCons 1 (rI .i64) (rCons 2 rRgT rNil))
abbrev ActsR : Rdr (List ActT) := rRow 4 rActT
theorem und39 : Try.prog.underlying 39 = some (.slice 46) := by kernel_rfl
theorem sz46 : (Try.prog.info? 46).map (·.size) = some 4 := by kernel_rfl
theorem agg46 : aggB Try.prog 46 = true := by kernel_rfl
theorem opens_Act : Opens Try.prog 46 rActT := opens_struct Try.underlying46 (by kernel_rfl) (opensF_cons rfl (by kernel_rfl) (by decide) (opens_int und3) (opensF_cons rfl (by kernel_rfl) (by decide) (opens_int und3) (opensF_cons rfl (by kernel_rfl) (by decide) opens_Rg opensF_nil)))
theorem opens_Acts : Opens Try.prog 39 ActsR := opens_row und39 (by kernel_rfl) opens_Act
end Go.Proofs.Ytcihbjempijhpaa.E
/- awake. -/
namespace Go.Proofs.Ytcihbjempijhpaa.E
open Go Go.RowKit
set_option linter.unusedSimpArgs false
set_option linter.unusedVariables false

theorem LeftL.keep {hu : Nat} {c : Nat → Nat} {w0 w w' : World} {g n : Nat} {le : Int} {V : LkV} (hh : 0 < hu ∧ hu < 1000) (hb : Below w0.heap.size w0 w) (h0 : ∀ k, k < w0.heap.size → c k = 0) (h : LeftL hu c w g le n V w') :
    ∃ c', (∀ k, k < w0.heap.size → c' k = 0) ∧ LkS hu c' w' g le n V ∧ Below w0.heap.size w0 w' := by
  obtain ⟨c', hc, hS, hT⟩ := h
  refine ⟨c', fun k hk => (hc k (Nat.lt_of_lt_of_le hk hb.size)).trans (h0 k hk), hS, hb.trans (hT.below hb.size fun k hk e => ?_)⟩
  unfold Dh at e
  rw [h0 k hk] at e
  omega
theorem ok_nil (le : Int) : LkOk 0 le (fun _ => none) := fun id L left e => by cases e
def awR : Rg := ([97], [99])
theorem aw_lst : lst ([] ++ [awR]) = [awR] := lst_canon ⟨by simp; decide, by simp⟩
def oneV (p : Option (List Rg × Int)) : LkV := fun j => if j = 5 then p else none
theorem one_take : takeV 2 (fun _ => none) 5 awR = oneV (some ([awR], 2)) := by
  unfold takeV
  rw [if_neg (by decide)]
  funext j
  unfold oneV
  split
  · show some (lst ([] ++ [awR]), 2) = _
    rw [aw_lst]
  · rfl
theorem one_tick (p : List Rg × Int) : tickV (oneV (some p)) = oneV (sweepF (p.1, p.2 - 1)) := by
  funext j
  unfold tickV oneV
  split <;> rfl
theorem one_renew (p : List Rg × Int) : renewV 2 (oneV (some p)) 5 = oneV (some (p.1, 2)) := by
  funext j
  unfold renewV oneV
  by_cases h : j = 5
  · rw [if_pos h, if_pos h, if_pos rfl]; rfl
  · rw [if_neg h, if_neg h, if_neg h]
theorem one_blocks (n : Int) : blocksV (oneV (some ([awR], n))) [98] := ⟨5, [awR], n, by simp [oneV], awR, by simp, by decide⟩
theorem none_blocks : ¬ blocksV (oneV none) [98] := by
  rintro ⟨id, L, left, h, _⟩
  unfold oneV at h
  split at h <;> cases h
theorem awake25 (w : World) : CallP Try.prog 25 #[] (fun r w' => r = .bool true ∧ Below w.heap.size w w') w := by
  refine ⟨S25.calls _ _ ?_⟩
  unfold S25
  refine (New27 1 (by decide) (fun _ => 0) 2 w).mono ?_
  rintro _ w1 ⟨g, c1, rfl, hc1, hS1, hb1⟩
  have hk1 : ∀ k, k < w.heap.size → c1 k = 0 := fun k hk => hc1 k hk
  refine ofPR (pr_pnil und41) ?_
  simp only [Option.isNone_some]
  (repeat with_reducible first | refine nck ?_ | refine cdT ?_ | refine cdF ?_ | refine gdY ?_ | refine gdFT ?_ | refine gdTF ?_ | refine gdU ?_ | refine gaY ?_ | refine gaFT ?_ | refine gaTF ?_ | refine pickT ?_ | refine pickF ?_ | refine bi_lss_t (by omega) ?_ | refine bi_lss_f (by omega) ?_ | refine bi_add64 (by omega) ?_ | refine bi_sub64 (by omega) ?_ | refine bi_eql_t (by omega) ?_ | refine bi_eql_f (by omega) ?_ | refine bi_neq_t (by omega) ?_ | refine bi_neq_f (by omega) ?_ | refine bi_gtr_t (by omega) ?_ | refine bi_gtr_f (by omega) ?_ | refine bi_leq_t (by omega) ?_ | refine bi_leq_f (by omega) ?_ | refine bi_geq_t (by omega) ?_ | refine bi_geq_f (by omega) ?_ | refine bi_xt0 ?_ | refine bi_xt1 ?_ | refine bi_xt2 ?_ | refine bi_xt3 ?_ | refine bi_T ?_ | refine bi_F ?_ | refine bi_not ?_ | refine bi_and ?_ | refine bi_or ?_ | refine bi_xor ?_ | refine bi_shr (by omega) (by decide) ?_ | refine bi_shl (by omega) (by decide) ?_ | refine bi_quo64 (by omega) ?_ | refine bi_rem64 (by omega) ?_ | refine bi_mul64 (by omega) ?_ | refine bi_neg ?_ | refine bi_un_xor32 ?_ | refine bi_add ?_ | refine bi_sub ?_ | refine bi_mul ?_ | refine bi_quo (by decide) ?_ | refine bi_rem (by decide) ?_)
  refine bd (cells := rgA awR) (by kernel_rfl) ?_
  have ok0 := ok_nil 2
  refine (Take28 5 awR (by decide) hS1 (ok0.mono (by omega)) (by omega)).mono ?_
  rintro _ w2 ⟨rfl, hL⟩
  obtain ⟨c2, hk2, hS2, hb2⟩ := hL.keep (by decide) hb1 hk1
  have ok1 := ok_take ok0 (by decide) 5 awR
  have e0 : max (2 : Int) 1 = 2 := by decide
  rw [e0, one_take] at hS2
  rw [one_take] at ok1
  have bnd : ∀ {n : Nat} {V : LkV}, LkOk n 2 V → ∀ id L left, V id = some (L, left) → -9223372036854775807 ≤ left ∧ left ≤ 9223372036854775807 := fun h id L left e => by
    obtain ⟨_, _, _, _, q1, q2⟩ := h id L left e
    omega
  refine (Tick33 hS2 (bnd ok1)).mono ?_
  rintro _ w3 hL
  obtain ⟨c3, hk3, hS3, hb3⟩ := hL.keep (by decide) hb2 hk2
  have ok2 := ok_tick ok1
  rw [one_tick] at hS3 ok2
  refine (Blocks30 [98] hS3).mono ?_
  rintro _ w4 ⟨b1, rfl, hB1, h4⟩
  have hb4 := below_then hb3 h4
  have hb1t : b1 = true := hB1.2 (one_blocks _)
  subst hb1t
  refine (Renew54 5 (hS3.below h4)).mono ?_
  rintro _ w5 ⟨_, hL⟩
  obtain ⟨c5, hk5, hS5, hb5⟩ := hL.keep (by decide) hb4 hk3
  have ok3 := ok_renew ok2 (by decide) 5
  have es : sweepF ([awR], (2 : Int) - 1) = some ([awR], 1) := by decide
  rw [es, one_renew] at hS5
  rw [es, one_renew] at ok3
  refine (Tick33 hS5 (bnd ok3)).mono ?_
  rintro _ w6 hL
  obtain ⟨c6, hk6, hS6, hb6⟩ := hL.keep (by decide) hb5 hk5
  have ok4 := ok_tick ok3
  rw [one_tick] at hS6 ok4
  refine (Blocks30 [98] hS6).mono ?_
  rintro _ w7 ⟨b2, rfl, hB2, h7⟩
  have hb7 := below_then hb6 h7
  have hb2t : b2 = true := hB2.2 (one_blocks _)
  subst hb2t
  refine (Tick33 (hS6.below h7) (bnd ok4)).mono ?_
  rintro _ w8 hL
  obtain ⟨c8, hk8, hS8, hb8⟩ := hL.keep (by decide) hb7 hk6
  have es1 : sweepF ((([awR], (2 : Int)) : List Rg × Int).1, (([awR], (2 : Int)) : List Rg × Int).2 - 1) = some ([awR], 1) := by decide
  have es2 : sweepF ((([awR], (1 : Int)) : List Rg × Int).1, (([awR], (1 : Int)) : List Rg × Int).2 - 1) = none := by decide
  rw [es1, one_tick, es2] at hS8
  have ht : takeE 5 awR = 0 := by unfold takeE; rw [if_neg (by decide)]
  rw [ht]
  (repeat with_reducible first | refine nck ?_ | refine cdT ?_ | refine cdF ?_ | refine gdY ?_ | refine gdFT ?_ | refine gdTF ?_ | refine gdU ?_ | refine gaY ?_ | refine gaFT ?_ | refine gaTF ?_ | refine pickT ?_ | refine pickF ?_ | refine bi_lss_t (by omega) ?_ | refine bi_lss_f (by omega) ?_ | refine bi_add64 (by omega) ?_ | refine bi_sub64 (by omega) ?_ | refine bi_eql_t (by omega) ?_ | refine bi_eql_f (by omega) ?_ | refine bi_neq_t (by omega) ?_ | refine bi_neq_f (by omega) ?_ | refine bi_gtr_t (by omega) ?_ | refine bi_gtr_f (by omega) ?_ | refine bi_leq_t (by omega) ?_ | refine bi_leq_f (by omega) ?_ | refine bi_geq_t (by omega) ?_ | refine bi_geq_f (by omega) ?_ | refine bi_xt0 ?_ | refine bi_xt1 ?_ | refine bi_xt2 ?_ | refine bi_xt3 ?_ | refine bi_T ?_ | refine bi_F ?_ | refine bi_not ?_ | refine bi_and ?_ | refine bi_or ?_ | refine bi_xor ?_ | refine bi_shr (by omega) (by decide) ?_ | refine bi_shl (by omega) (by decide) ?_ | refine bi_quo64 (by omega) ?_ | refine bi_rem64 (by omega) ?_ | refine bi_mul64 (by omega) ?_ | refine bi_neg ?_ | refine bi_un_xor32 ?_ | refine bi_add ?_ | refine bi_sub ?_ | refine bi_mul ?_ | refine bi_quo (by decide) ?_ | refine bi_rem (by decide) ?_)
  refine (Blocks30 [98] hS8).mono ?_
  rintro _ w9 ⟨b3, rfl, hB3, h9⟩
  have hb3f : b3 = false := by
    cases b3 with
    | false => rfl
    | true => exact absurd (hB3.1 rfl) none_blocks
  subst hb3f
  (repeat with_reducible first | refine nck ?_ | refine cdT ?_ | refine cdF ?_ | refine gdY ?_ | refine gdFT ?_ | refine gdTF ?_ | refine gdU ?_ | refine gaY ?_ | refine gaFT ?_ | refine gaTF ?_ | refine pickT ?_ | refine pickF ?_ | refine bi_lss_t (by omega) ?_ | refine bi_lss_f (by omega) ?_ | refine bi_add64 (by omega) ?_ | refine bi_sub64 (by omega) ?_ | refine bi_eql_t (by omega) ?_ | refine bi_eql_f (by omega) ?_ | refine bi_neq_t (by omega) ?_ | refine bi_neq_f (by omega) ?_ | refine bi_gtr_t (by omega) ?_ | refine bi_gtr_f (by omega) ?_ | refine bi_leq_t (by omega) ?_ | refine bi_leq_f (by omega) ?_ | refine bi_geq_t (by omega) ?_ | refine bi_geq_f (by omega) ?_ | refine bi_xt0 ?_ | refine bi_xt1 ?_ | refine bi_xt2 ?_ | refine bi_xt3 ?_ | refine bi_T ?_ | refine bi_F ?_ | refine bi_not ?_ | refine bi_and ?_ | refine bi_or ?_ | refine bi_xor ?_ | refine bi_shr (by omega) (by decide) ?_ | refine bi_shl (by omega) (by decide) ?_ | refine bi_quo64 (by omega) ?_ | refine bi_rem64 (by omega) ?_ | refine bi_mul64 (by omega) ?_ | refine bi_neg ?_ | refine bi_un_xor32 ?_ | refine bi_add ?_ | refine bi_sub ?_ | refine bi_mul ?_ | refine bi_quo (by decide) ?_ | refine bi_rem (by decide) ?_)
  exact ⟨rfl, below_then hb8 h9⟩
end Go.Proofs.Ytcihbjempijhpaa.E
/- Acts read; light. -/
namespace Go.Proofs.Ytcihbjempijhpaa.E
open Go Go.RowKit
set_option linter.unusedSimpArgs false
set_option linter.unusedVariables false

abbrev AcR : Rdr (List Act3) := rRow 4 (fun _ us x => us = acF x)
theorem keeps_AcR : Keeps AcR := keeps_Row (fun _ _ _ _ _ h => h)
def toAct (x : ActT) : Act3 := ⟨x.1, x.2.1, toRg x.2.2.1⟩
theorem acT_cells {w : World} {us : List Value} {x : ActT} (h : rActT w us x) : us = acF (toAct x) ∧ (Lit.int .i64 x.2.1).wf = true := by
  obtain ⟨r, rfl, _, h⟩ := rCons_I h
  obtain ⟨r, rfl, hw, h⟩ := rCons_I h
  obtain ⟨h1, h2⟩ := h
  have e1 := rgT_cells h1
  have e2 : r.drop 2 = [] := h2
  have e3 : r = r.take 2 ++ r.drop 2 := (List.take_append_drop 2 r).symm
  rw [e1, e2] at e3
  rw [e3]
  exact ⟨rfl, hw⟩
theorem acsT_of {w : World} {v : Value} {l : List ActT} (h : ActsR w [v] l) : AcR w [v] (l.map toAct) := by
  obtain ⟨A, c, he, h1, h2, h3⟩ := h
  refine ⟨A, c, by rw [he, List.length_map], by rw [List.length_map]; exact h1, h2, fun i x hx => ?_⟩
  rw [List.getElem?_map] at hx
  obtain ⟨y, hy, rfl⟩ := Option.map_eq_some_iff.1 hx
  obtain ⟨a, us, ha, hus, hcell, hr⟩ := h3 i y hy
  exact ⟨a, us, ha, hus, hcell, (acT_cells hr).1⟩
theorem light26 (v : Value) (l : List Act3) (w : World) (hv : AcR w [v] l) : CallP Try.prog 26 #[v] (fun r w' => ∃ b, r = .bool b ∧ (b = true → l.length < 100) ∧ Below w.heap.size w w') w := by
  obtain ⟨A, c, rfl, hc, hm⟩ := hv.slice
  refine ⟨S26.calls _ _ _ ?_⟩
  unfold S26
  refine LoopP.inv1 (fun iv w' => ∃ k : Nat, k ≤ l.length ∧ k ≤ 100 ∧ iv = .int .i64 k ∧ Below w.heap.size w w') (fun iv _ => l.length - (intOf iv).toNat) ⟨0, by omega, by omega, rfl, Below.refl _ _⟩ ?_
  rintro _ w1 ⟨k, hk, hk1, rfl, hb1⟩ J hJ
  dsimp only [List.headD_cons, List.tail_cons]
  refine ln und39 ?_
  refine bi_lss_c (fun h => ?a) (fun h => ?b)
  case' a =>
    have hk' : k < l.length := by omega
    (repeat with_reducible first | refine nck ?_ | refine cdT ?_ | refine cdF ?_ | refine gdY ?_ | refine gdFT ?_ | refine gdTF ?_ | refine gdU ?_ | refine gaY ?_ | refine gaFT ?_ | refine gaTF ?_ | refine pickT ?_ | refine pickF ?_ | refine bi_lss_t (by omega) ?_ | refine bi_lss_f (by omega) ?_ | refine bi_add64 (by omega) ?_ | refine bi_sub64 (by omega) ?_ | refine bi_eql_t (by omega) ?_ | refine bi_eql_f (by omega) ?_ | refine bi_neq_t (by omega) ?_ | refine bi_neq_f (by omega) ?_ | refine bi_gtr_t (by omega) ?_ | refine bi_gtr_f (by omega) ?_ | refine bi_leq_t (by omega) ?_ | refine bi_leq_f (by omega) ?_ | refine bi_geq_t (by omega) ?_ | refine bi_geq_f (by omega) ?_ | refine bi_xt0 ?_ | refine bi_xt1 ?_ | refine bi_xt2 ?_ | refine bi_xt3 ?_ | refine bi_T ?_ | refine bi_F ?_ | refine bi_not ?_ | refine bi_and ?_ | refine bi_or ?_ | refine bi_xor ?_ | refine bi_shr (by omega) (by decide) ?_ | refine bi_shl (by omega) (by decide) ?_ | refine bi_quo64 (by omega) ?_ | refine bi_rem64 (by omega) ?_ | refine bi_mul64 (by omega) ?_ | refine bi_neg ?_ | refine bi_un_xor32 ?_ | refine bi_add ?_ | refine bi_sub ?_ | refine bi_mul ?_ | refine bi_quo (by decide) ?_ | refine bi_rem (by decide) ?_)
    refine bi_lss_c (fun h2 => ?a1) (fun h2 => ?a2)
  case a1 =>
    obtain ⟨a, us, rfl, _, hcell, rfl⟩ := rRow.at (keeps_AcR _ _ _ _ hb1 hv) k hk'
    (repeat with_reducible first | refine ixN und39 sz46 k hk' ?_ | refine fdA a2 (by decide) ?_ | refine nck ?_ | refine cdT ?_ | refine cdF ?_ | refine gdY ?_ | refine gdFT ?_ | refine gdTF ?_ | refine gdU ?_ | refine gaY ?_ | refine gaFT ?_ | refine gaTF ?_ | refine pickT ?_ | refine pickF ?_ | refine bi_lss_t (by omega) ?_ | refine bi_lss_f (by omega) ?_ | refine bi_add64 (by omega) ?_ | refine bi_sub64 (by omega) ?_ | refine bi_eql_t (by omega) ?_ | refine bi_eql_f (by omega) ?_ | refine bi_neq_t (by omega) ?_ | refine bi_neq_f (by omega) ?_ | refine bi_gtr_t (by omega) ?_ | refine bi_gtr_f (by omega) ?_ | refine bi_leq_t (by omega) ?_ | refine bi_leq_f (by omega) ?_ | refine bi_geq_t (by omega) ?_ | refine bi_geq_f (by omega) ?_ | refine bi_xt0 ?_ | refine bi_xt1 ?_ | refine bi_xt2 ?_ | refine bi_xt3 ?_ | refine bi_T ?_ | refine bi_F ?_ | refine bi_not ?_ | refine bi_and ?_ | refine bi_or ?_ | refine bi_xor ?_ | refine bi_shr (by omega) (by decide) ?_ | refine bi_shl (by omega) (by decide) ?_ | refine bi_quo64 (by omega) ?_ | refine bi_rem64 (by omega) ?_ | refine bi_mul64 (by omega) ?_ | refine bi_neg ?_ | refine bi_un_xor32 ?_ | refine bi_add ?_ | refine bi_sub ?_ | refine bi_mul ?_ | refine bi_quo (by decide) ?_ | refine bi_rem (by decide) ?_)
    refine ldR (us := rgF l[k].r) agg23 (fun j u hu => ?_) (by rw [sz23]; rfl) ?_
    · rw [add_add]
      have := hcell (2 + j) u
      rw [add_add] at this
      rw [add_add]
      refine this ?_
      match j, hu with
      | 0, hu => exact hu
      | 1, hu => exact hu
      | n + 2, hu => simp [rgF] at hu
    refine bs1R l[k].r ?_
    intro v2 w2 ho2 hb2
    refine (light11 v2 [l[k].r] 1 (by decide) w2 ho2.rd).mono ?_
    rintro _ _ ⟨z, rfl, _, rfl⟩
    have hb2' := below_then hb1 hb2
    cases z with
    | false =>
      (repeat with_reducible first | refine nck ?_ | refine cdT ?_ | refine cdF ?_ | refine gdY ?_ | refine gdFT ?_ | refine gdTF ?_ | refine gdU ?_ | refine gaY ?_ | refine gaFT ?_ | refine gaTF ?_ | refine pickT ?_ | refine pickF ?_ | refine bi_lss_t (by omega) ?_ | refine bi_lss_f (by omega) ?_ | refine bi_add64 (by omega) ?_ | refine bi_sub64 (by omega) ?_ | refine bi_eql_t (by omega) ?_ | refine bi_eql_f (by omega) ?_ | refine bi_neq_t (by omega) ?_ | refine bi_neq_f (by omega) ?_ | refine bi_gtr_t (by omega) ?_ | refine bi_gtr_f (by omega) ?_ | refine bi_leq_t (by omega) ?_ | refine bi_leq_f (by omega) ?_ | refine bi_geq_t (by omega) ?_ | refine bi_geq_f (by omega) ?_ | refine bi_xt0 ?_ | refine bi_xt1 ?_ | refine bi_xt2 ?_ | refine bi_xt3 ?_ | refine bi_T ?_ | refine bi_F ?_ | refine bi_not ?_ | refine bi_and ?_ | refine bi_or ?_ | refine bi_xor ?_ | refine bi_shr (by omega) (by decide) ?_ | refine bi_shl (by omega) (by decide) ?_ | refine bi_quo64 (by omega) ?_ | refine bi_rem64 (by omega) ?_ | refine bi_mul64 (by omega) ?_ | refine bi_neg ?_ | refine bi_un_xor32 ?_ | refine bi_add ?_ | refine bi_sub ?_ | refine bi_mul ?_ | refine bi_quo (by decide) ?_ | refine bi_rem (by decide) ?_)
      exact ⟨false, rfl, (fun e => by cases e), hb2'⟩
    | true =>
      (repeat with_reducible first | refine nck ?_ | refine cdT ?_ | refine cdF ?_ | refine gdY ?_ | refine gdFT ?_ | refine gdTF ?_ | refine gdU ?_ | refine gaY ?_ | refine gaFT ?_ | refine gaTF ?_ | refine pickT ?_ | refine pickF ?_ | refine bi_lss_t (by omega) ?_ | refine bi_lss_f (by omega) ?_ | refine bi_add64 (by omega) ?_ | refine bi_sub64 (by omega) ?_ | refine bi_eql_t (by omega) ?_ | refine bi_eql_f (by omega) ?_ | refine bi_neq_t (by omega) ?_ | refine bi_neq_f (by omega) ?_ | refine bi_gtr_t (by omega) ?_ | refine bi_gtr_f (by omega) ?_ | refine bi_leq_t (by omega) ?_ | refine bi_leq_f (by omega) ?_ | refine bi_geq_t (by omega) ?_ | refine bi_geq_f (by omega) ?_ | refine bi_xt0 ?_ | refine bi_xt1 ?_ | refine bi_xt2 ?_ | refine bi_xt3 ?_ | refine bi_T ?_ | refine bi_F ?_ | refine bi_not ?_ | refine bi_and ?_ | refine bi_or ?_ | refine bi_xor ?_ | refine bi_shr (by omega) (by decide) ?_ | refine bi_shl (by omega) (by decide) ?_ | refine bi_quo64 (by omega) ?_ | refine bi_rem64 (by omega) ?_ | refine bi_mul64 (by omega) ?_ | refine bi_neg ?_ | refine bi_un_xor32 ?_ | refine bi_add ?_ | refine bi_sub ?_ | refine bi_mul ?_ | refine bi_quo (by decide) ?_ | refine bi_rem (by decide) ?_)
      exact hJ _ _ ⟨k + 1, by omega, by omega, by simp, hb2'⟩ (by simp [intOf]; omega)
  all_goals
    (repeat with_reducible first | refine nck ?_ | refine cdT ?_ | refine cdF ?_ | refine gdY ?_ | refine gdFT ?_ | refine gdTF ?_ | refine gdU ?_ | refine gaY ?_ | refine gaFT ?_ | refine gaTF ?_ | refine pickT ?_ | refine pickF ?_ | refine bi_lss_t (by omega) ?_ | refine bi_lss_f (by omega) ?_ | refine bi_add64 (by omega) ?_ | refine bi_sub64 (by omega) ?_ | refine bi_eql_t (by omega) ?_ | refine bi_eql_f (by omega) ?_ | refine bi_neq_t (by omega) ?_ | refine bi_neq_f (by omega) ?_ | refine bi_gtr_t (by omega) ?_ | refine bi_gtr_f (by omega) ?_ | refine bi_leq_t (by omega) ?_ | refine bi_leq_f (by omega) ?_ | refine bi_geq_t (by omega) ?_ | refine bi_geq_f (by omega) ?_ | refine bi_xt0 ?_ | refine bi_xt1 ?_ | refine bi_xt2 ?_ | refine bi_xt3 ?_ | refine bi_T ?_ | refine bi_F ?_ | refine bi_not ?_ | refine bi_and ?_ | refine bi_or ?_ | refine bi_xor ?_ | refine bi_shr (by omega) (by decide) ?_ | refine bi_shl (by omega) (by decide) ?_ | refine bi_quo64 (by omega) ?_ | refine bi_rem64 (by omega) ?_ | refine bi_mul64 (by omega) ?_ | refine bi_neg ?_ | refine bi_un_xor32 ?_ | refine bi_add ?_ | refine bi_sub ?_ | refine bi_mul ?_ | refine bi_quo (by decide) ?_ | refine bi_rem (by decide) ?_)
    refine ln und39 ?_
    refine bi_lss_c (fun h5 => ?_) (fun h5 => ?_)
    · exact ⟨true, rfl, fun _ => by omega, hb1⟩
    · exact ⟨false, rfl, (fun e => by cases e), hb1⟩
end Go.Proofs.Ytcihbjempijhpaa.E
/- LockPlays. -/
namespace Go.Proofs.Ytcihbjempijhpaa.E
open Go Go.RowKit
set_option linter.unusedSimpArgs false
set_option linter.unusedVariables false

theorem agg_acR {a : Act3} : (Value.agg (acF a).toArray) = acV a := rfl
theorem runV_ok {n : Nat} {le : Int} (hle : 1 ≤ le) : ∀ (l : List Act3) (V : LkV), LkOk n le V → LkOk (n + l.length) le (l.foldl (actV le) V)
  | [], V, h => h
  | a :: l, V, h => by
    have := runV_ok hle l _ (ok_act h hle a)
    rw [List.foldl_cons, List.length_cons]
    exact this.mono (by omega)
theorem take_fold {le : Int} {l : List Act3} {k : Nat} (hk : k < l.length) (V : LkV) : (l.take (k + 1)).foldl (actV le) V = actV le ((l.take k).foldl (actV le) V) l[k] := by
  rw [List.take_succ_eq_append_getElem hk, List.foldl_append]; rfl
theorem szR (r : Rg) : (Try.prog.info? 23).map (·.size) = some (rgA r).size := sz23
section
variable {P : Program} {K : Value → World → Prop} {S : World → Prop} {w : World} {x y : Operand} {t : TypeId}
theorem bneq_Y {b : Bool} (ht : P.underlying t = some .bool) (k : K (.bool false) w) : YieldP P S (binS .neq t x y (.bool b) (.bool b)) K w := by
  refine yi_bneq ht ?_
  rw [decide_eq_false (fun h => h rfl)]
  exact k
end
section
variable {c c' : Nat → Nat} {w0 w w' : World} {g1 g2 : Nat} {le1 le2 : Int} {n1 n2 : Nat} {V1 V2 : LkV}
theorem LeftB.keep (h0 : ∀ k, k < w0.heap.size → c k = 0) (hb : Below w0.heap.size w0 w) (h : LeftB c w g1 g2 le1 le2 n1 n2 V1 V2 w') : ∃ c', (∀ k, k < w0.heap.size → c' k = 0) ∧ Both c' w' g1 g2 le1 le2 n1 n2 V1 V2 ∧ Below w0.heap.size w0 w' := by
  obtain ⟨c', hc, hS, hT⟩ := h
  refine ⟨c', fun k hk => (hc k (Nat.lt_of_lt_of_le hk hb.size)).trans (h0 k hk), hS, hb.trans (hT.below hb.size fun k hk e => ?_)⟩
  unfold D12 at e
  rw [h0 k hk] at e
  omega
end
theorem lockPlays (lease : Int) (hle0 : lease ≤ 9223372036854775807) (v : Value) (l : List Act3) (hl64 : ∀ a ∈ l, a.id ≤ 9223372036854775807) (r : Rg) (s : Txt) (w : World) (hv : AcR w [v] l) :
    CallP Try.prog 9 #[.int .i64 lease, v, rgV r, tS s] (fun u w' => u = .bool true ∧ Below w.heap.size w w') w := by
  obtain ⟨A, cA, rfl, hcA, hmA⟩ := hv.slice
  refine ⟨S9.calls _ _ _ _ _ _ ?_⟩
  unfold S9
  refine bxB ?_
  intro gR w1 hgR hR1 hb1
  refine (awake25 w1).mono ?_
  rintro _ w2 ⟨rfl, h2⟩
  have hb2 := below_then hb1 h2
  have hR2 := hR1.below' h2
  (repeat with_reducible first | refine nck ?_ | refine cdT ?_ | refine cdF ?_ | refine gdY ?_ | refine gdFT ?_ | refine gdTF ?_ | refine gdU ?_ | refine gaY ?_ | refine gaFT ?_ | refine gaTF ?_ | refine pickT ?_ | refine pickF ?_ | refine bi_lss_t (by omega) ?_ | refine bi_lss_f (by omega) ?_ | refine bi_add64 (by omega) ?_ | refine bi_sub64 (by omega) ?_ | refine bi_eql_t (by omega) ?_ | refine bi_eql_f (by omega) ?_ | refine bi_neq_t (by omega) ?_ | refine bi_neq_f (by omega) ?_ | refine bi_gtr_t (by omega) ?_ | refine bi_gtr_f (by omega) ?_ | refine bi_leq_t (by omega) ?_ | refine bi_leq_f (by omega) ?_ | refine bi_geq_t (by omega) ?_ | refine bi_geq_f (by omega) ?_ | refine bi_xt0 ?_ | refine bi_xt1 ?_ | refine bi_xt2 ?_ | refine bi_xt3 ?_ | refine bi_T ?_ | refine bi_F ?_ | refine bi_not ?_ | refine bi_and ?_ | refine bi_or ?_ | refine bi_xor ?_ | refine bi_shr (by omega) (by decide) ?_ | refine bi_shl (by omega) (by decide) ?_ | refine bi_quo64 (by omega) ?_ | refine bi_rem64 (by omega) ?_ | refine bi_mul64 (by omega) ?_ | refine bi_neg ?_ | refine bi_un_xor32 ?_ | refine bi_add ?_ | refine bi_sub ?_ | refine bi_mul ?_ | refine bi_quo (by decide) ?_ | refine bi_rem (by decide) ?_)
  refine (light26 _ l w2 (keeps_AcR _ _ _ _ hb2 hv)).mono ?_
  rintro _ w3 ⟨z, rfl, hz, h3⟩
  have hb3 := below_then hb2 h3
  have hR3 := hR2.below' h3
  cases z with
  | false =>
    (repeat with_reducible first | refine nck ?_ | refine cdT ?_ | refine cdF ?_ | refine gdY ?_ | refine gdFT ?_ | refine gdTF ?_ | refine gdU ?_ | refine gaY ?_ | refine gaFT ?_ | refine gaTF ?_ | refine pickT ?_ | refine pickF ?_ | refine bi_lss_t (by omega) ?_ | refine bi_lss_f (by omega) ?_ | refine bi_add64 (by omega) ?_ | refine bi_sub64 (by omega) ?_ | refine bi_eql_t (by omega) ?_ | refine bi_eql_f (by omega) ?_ | refine bi_neq_t (by omega) ?_ | refine bi_neq_f (by omega) ?_ | refine bi_gtr_t (by omega) ?_ | refine bi_gtr_f (by omega) ?_ | refine bi_leq_t (by omega) ?_ | refine bi_leq_f (by omega) ?_ | refine bi_geq_t (by omega) ?_ | refine bi_geq_f (by omega) ?_ | refine bi_xt0 ?_ | refine bi_xt1 ?_ | refine bi_xt2 ?_ | refine bi_xt3 ?_ | refine bi_T ?_ | refine bi_F ?_ | refine bi_not ?_ | refine bi_and ?_ | refine bi_or ?_ | refine bi_xor ?_ | refine bi_shr (by omega) (by decide) ?_ | refine bi_shl (by omega) (by decide) ?_ | refine bi_quo64 (by omega) ?_ | refine bi_rem64 (by omega) ?_ | refine bi_mul64 (by omega) ?_ | refine bi_neg ?_ | refine bi_un_xor32 ?_ | refine bi_add ?_ | refine bi_sub ?_ | refine bi_mul ?_ | refine bi_quo (by decide) ?_ | refine bi_rem (by decide) ?_)
    exact ⟨rfl, hb3⟩
  | true =>
  have hl := hz rfl
  (repeat with_reducible first | refine nck ?_ | refine cdT ?_ | refine cdF ?_ | refine gdY ?_ | refine gdFT ?_ | refine gdTF ?_ | refine gdU ?_ | refine gaY ?_ | refine gaFT ?_ | refine gaTF ?_ | refine pickT ?_ | refine pickF ?_ | refine bi_lss_t (by omega) ?_ | refine bi_lss_f (by omega) ?_ | refine bi_add64 (by omega) ?_ | refine bi_sub64 (by omega) ?_ | refine bi_eql_t (by omega) ?_ | refine bi_eql_f (by omega) ?_ | refine bi_neq_t (by omega) ?_ | refine bi_neq_f (by omega) ?_ | refine bi_gtr_t (by omega) ?_ | refine bi_gtr_f (by omega) ?_ | refine bi_leq_t (by omega) ?_ | refine bi_leq_f (by omega) ?_ | refine bi_geq_t (by omega) ?_ | refine bi_geq_f (by omega) ?_ | refine bi_xt0 ?_ | refine bi_xt1 ?_ | refine bi_xt2 ?_ | refine bi_xt3 ?_ | refine bi_T ?_ | refine bi_F ?_ | refine bi_not ?_ | refine bi_and ?_ | refine bi_or ?_ | refine bi_xor ?_ | refine bi_shr (by omega) (by decide) ?_ | refine bi_shl (by omega) (by decide) ?_ | refine bi_quo64 (by omega) ?_ | refine bi_rem64 (by omega) ?_ | refine bi_mul64 (by omega) ?_ | refine bi_neg ?_ | refine bi_un_xor32 ?_ | refine bi_add ?_ | refine bi_sub ?_ | refine bi_mul ?_ | refine bi_quo (by decide) ?_ | refine bi_rem (by decide) ?_)
  refine ldA agg23 hR3 (by rw [sz23]; rfl) ?_
  (repeat with_reducible first | refine nck ?_ | refine cdT ?_ | refine cdF ?_ | refine gdY ?_ | refine gdFT ?_ | refine gdTF ?_ | refine gdU ?_ | refine gaY ?_ | refine gaFT ?_ | refine gaTF ?_ | refine pickT ?_ | refine pickF ?_ | refine bi_lss_t (by omega) ?_ | refine bi_lss_f (by omega) ?_ | refine bi_add64 (by omega) ?_ | refine bi_sub64 (by omega) ?_ | refine bi_eql_t (by omega) ?_ | refine bi_eql_f (by omega) ?_ | refine bi_neq_t (by omega) ?_ | refine bi_neq_f (by omega) ?_ | refine bi_gtr_t (by omega) ?_ | refine bi_gtr_f (by omega) ?_ | refine bi_leq_t (by omega) ?_ | refine bi_leq_f (by omega) ?_ | refine bi_geq_t (by omega) ?_ | refine bi_geq_f (by omega) ?_ | refine bi_xt0 ?_ | refine bi_xt1 ?_ | refine bi_xt2 ?_ | refine bi_xt3 ?_ | refine bi_T ?_ | refine bi_F ?_ | refine bi_not ?_ | refine bi_and ?_ | refine bi_or ?_ | refine bi_xor ?_ | refine bi_shr (by omega) (by decide) ?_ | refine bi_shl (by omega) (by decide) ?_ | refine bi_quo64 (by omega) ?_ | refine bi_rem64 (by omega) ?_ | refine bi_mul64 (by omega) ?_ | refine bi_neg ?_ | refine bi_un_xor32 ?_ | refine bi_add ?_ | refine bi_sub ?_ | refine bi_mul ?_ | refine bi_quo (by decide) ?_ | refine bi_rem (by decide) ?_)
  refine bs1R r ?_
  intro v4 w4 ho4 h4
  have hb4 := below_then hb3 h4
  have hR4 := hR3.below' h4
  (repeat with_reducible first | refine nck ?_ | refine cdT ?_ | refine cdF ?_ | refine gdY ?_ | refine gdFT ?_ | refine gdTF ?_ | refine gdU ?_ | refine gaY ?_ | refine gaFT ?_ | refine gaTF ?_ | refine pickT ?_ | refine pickF ?_ | refine bi_lss_t (by omega) ?_ | refine bi_lss_f (by omega) ?_ | refine bi_add64 (by omega) ?_ | refine bi_sub64 (by omega) ?_ | refine bi_eql_t (by omega) ?_ | refine bi_eql_f (by omega) ?_ | refine bi_neq_t (by omega) ?_ | refine bi_neq_f (by omega) ?_ | refine bi_gtr_t (by omega) ?_ | refine bi_gtr_f (by omega) ?_ | refine bi_leq_t (by omega) ?_ | refine bi_leq_f (by omega) ?_ | refine bi_geq_t (by omega) ?_ | refine bi_geq_f (by omega) ?_ | refine bi_xt0 ?_ | refine bi_xt1 ?_ | refine bi_xt2 ?_ | refine bi_xt3 ?_ | refine bi_T ?_ | refine bi_F ?_ | refine bi_not ?_ | refine bi_and ?_ | refine bi_or ?_ | refine bi_xor ?_ | refine bi_shr (by omega) (by decide) ?_ | refine bi_shl (by omega) (by decide) ?_ | refine bi_quo64 (by omega) ?_ | refine bi_rem64 (by omega) ?_ | refine bi_mul64 (by omega) ?_ | refine bi_neg ?_ | refine bi_un_xor32 ?_ | refine bi_add ?_ | refine bi_sub ?_ | refine bi_mul ?_ | refine bi_quo (by decide) ?_ | refine bi_rem (by decide) ?_)
  refine (light11 v4 [r] 1 (by decide) w4 ho4.rd).mono ?_
  rintro _ _ ⟨z, rfl, _, rfl⟩
  cases z with
  | false =>
    (repeat with_reducible first | refine nck ?_ | refine cdT ?_ | refine cdF ?_ | refine gdY ?_ | refine gdFT ?_ | refine gdTF ?_ | refine gdU ?_ | refine gaY ?_ | refine gaFT ?_ | refine gaTF ?_ | refine pickT ?_ | refine pickF ?_ | refine bi_lss_t (by omega) ?_ | refine bi_lss_f (by omega) ?_ | refine bi_add64 (by omega) ?_ | refine bi_sub64 (by omega) ?_ | refine bi_eql_t (by omega) ?_ | refine bi_eql_f (by omega) ?_ | refine bi_neq_t (by omega) ?_ | refine bi_neq_f (by omega) ?_ | refine bi_gtr_t (by omega) ?_ | refine bi_gtr_f (by omega) ?_ | refine bi_leq_t (by omega) ?_ | refine bi_leq_f (by omega) ?_ | refine bi_geq_t (by omega) ?_ | refine bi_geq_f (by omega) ?_ | refine bi_xt0 ?_ | refine bi_xt1 ?_ | refine bi_xt2 ?_ | refine bi_xt3 ?_ | refine bi_T ?_ | refine bi_F ?_ | refine bi_not ?_ | refine bi_and ?_ | refine bi_or ?_ | refine bi_xor ?_ | refine bi_shr (by omega) (by decide) ?_ | refine bi_shl (by omega) (by decide) ?_ | refine bi_quo64 (by omega) ?_ | refine bi_rem64 (by omega) ?_ | refine bi_mul64 (by omega) ?_ | refine bi_neg ?_ | refine bi_un_xor32 ?_ | refine bi_add ?_ | refine bi_sub ?_ | refine bi_mul ?_ | refine bi_quo (by decide) ?_ | refine bi_rem (by decide) ?_)
    exact ⟨rfl, hb4⟩
  | true =>
  (repeat with_reducible first | refine nck ?_ | refine cdT ?_ | refine cdF ?_ | refine gdY ?_ | refine gdFT ?_ | refine gdTF ?_ | refine gdU ?_ | refine gaY ?_ | refine gaFT ?_ | refine gaTF ?_ | refine pickT ?_ | refine pickF ?_ | refine bi_lss_t (by omega) ?_ | refine bi_lss_f (by omega) ?_ | refine bi_add64 (by omega) ?_ | refine bi_sub64 (by omega) ?_ | refine bi_eql_t (by omega) ?_ | refine bi_eql_f (by omega) ?_ | refine bi_neq_t (by omega) ?_ | refine bi_neq_f (by omega) ?_ | refine bi_gtr_t (by omega) ?_ | refine bi_gtr_f (by omega) ?_ | refine bi_leq_t (by omega) ?_ | refine bi_leq_f (by omega) ?_ | refine bi_geq_t (by omega) ?_ | refine bi_geq_f (by omega) ?_ | refine bi_xt0 ?_ | refine bi_xt1 ?_ | refine bi_xt2 ?_ | refine bi_xt3 ?_ | refine bi_T ?_ | refine bi_F ?_ | refine bi_not ?_ | refine bi_and ?_ | refine bi_or ?_ | refine bi_xor ?_ | refine bi_shr (by omega) (by decide) ?_ | refine bi_shl (by omega) (by decide) ?_ | refine bi_quo64 (by omega) ?_ | refine bi_rem64 (by omega) ?_ | refine bi_mul64 (by omega) ?_ | refine bi_neg ?_ | refine bi_un_xor32 ?_ | refine bi_add ?_ | refine bi_sub ?_ | refine bi_mul ?_ | refine bi_quo (by decide) ?_ | refine bi_rem (by decide) ?_)
  refine tln und9 ?_
  (repeat with_reducible first | refine nck ?_ | refine cdT ?_ | refine cdF ?_ | refine gdY ?_ | refine gdFT ?_ | refine gdTF ?_ | refine gdU ?_ | refine gaY ?_ | refine gaFT ?_ | refine gaTF ?_ | refine pickT ?_ | refine pickF ?_ | refine bi_lss_t (by omega) ?_ | refine bi_lss_f (by omega) ?_ | refine bi_add64 (by omega) ?_ | refine bi_sub64 (by omega) ?_ | refine bi_eql_t (by omega) ?_ | refine bi_eql_f (by omega) ?_ | refine bi_neq_t (by omega) ?_ | refine bi_neq_f (by omega) ?_ | refine bi_gtr_t (by omega) ?_ | refine bi_gtr_f (by omega) ?_ | refine bi_leq_t (by omega) ?_ | refine bi_leq_f (by omega) ?_ | refine bi_geq_t (by omega) ?_ | refine bi_geq_f (by omega) ?_ | refine bi_xt0 ?_ | refine bi_xt1 ?_ | refine bi_xt2 ?_ | refine bi_xt3 ?_ | refine bi_T ?_ | refine bi_F ?_ | refine bi_not ?_ | refine bi_and ?_ | refine bi_or ?_ | refine bi_xor ?_ | refine bi_shr (by omega) (by decide) ?_ | refine bi_shl (by omega) (by decide) ?_ | refine bi_quo64 (by omega) ?_ | refine bi_rem64 (by omega) ?_ | refine bi_mul64 (by omega) ?_ | refine bi_neg ?_ | refine bi_un_xor32 ?_ | refine bi_add ?_ | refine bi_sub ?_ | refine bi_mul ?_ | refine bi_quo (by decide) ?_ | refine bi_rem (by decide) ?_)
  refine bi_gtr_c (fun h => ?_) (fun h => ?_)
  · (repeat with_reducible first | refine nck ?_ | refine cdT ?_ | refine cdF ?_ | refine gdY ?_ | refine gdFT ?_ | refine gdTF ?_ | refine gdU ?_ | refine gaY ?_ | refine gaFT ?_ | refine gaTF ?_ | refine pickT ?_ | refine pickF ?_ | refine bi_lss_t (by omega) ?_ | refine bi_lss_f (by omega) ?_ | refine bi_add64 (by omega) ?_ | refine bi_sub64 (by omega) ?_ | refine bi_eql_t (by omega) ?_ | refine bi_eql_f (by omega) ?_ | refine bi_neq_t (by omega) ?_ | refine bi_neq_f (by omega) ?_ | refine bi_gtr_t (by omega) ?_ | refine bi_gtr_f (by omega) ?_ | refine bi_leq_t (by omega) ?_ | refine bi_leq_f (by omega) ?_ | refine bi_geq_t (by omega) ?_ | refine bi_geq_f (by omega) ?_ | refine bi_xt0 ?_ | refine bi_xt1 ?_ | refine bi_xt2 ?_ | refine bi_xt3 ?_ | refine bi_T ?_ | refine bi_F ?_ | refine bi_not ?_ | refine bi_and ?_ | refine bi_or ?_ | refine bi_xor ?_ | refine bi_shr (by omega) (by decide) ?_ | refine bi_shl (by omega) (by decide) ?_ | refine bi_quo64 (by omega) ?_ | refine bi_rem64 (by omega) ?_ | refine bi_mul64 (by omega) ?_ | refine bi_neg ?_ | refine bi_un_xor32 ?_ | refine bi_add ?_ | refine bi_sub ?_ | refine bi_mul ?_ | refine bi_quo (by decide) ?_ | refine bi_rem (by decide) ?_)
    exact ⟨rfl, hb4⟩
  (repeat with_reducible first | refine nck ?_ | refine cdT ?_ | refine cdF ?_ | refine gdY ?_ | refine gdFT ?_ | refine gdTF ?_ | refine gdU ?_ | refine gaY ?_ | refine gaFT ?_ | refine gaTF ?_ | refine pickT ?_ | refine pickF ?_ | refine bi_lss_t (by omega) ?_ | refine bi_lss_f (by omega) ?_ | refine bi_add64 (by omega) ?_ | refine bi_sub64 (by omega) ?_ | refine bi_eql_t (by omega) ?_ | refine bi_eql_f (by omega) ?_ | refine bi_neq_t (by omega) ?_ | refine bi_neq_f (by omega) ?_ | refine bi_gtr_t (by omega) ?_ | refine bi_gtr_f (by omega) ?_ | refine bi_leq_t (by omega) ?_ | refine bi_leq_f (by omega) ?_ | refine bi_geq_t (by omega) ?_ | refine bi_geq_f (by omega) ?_ | refine bi_xt0 ?_ | refine bi_xt1 ?_ | refine bi_xt2 ?_ | refine bi_xt3 ?_ | refine bi_T ?_ | refine bi_F ?_ | refine bi_not ?_ | refine bi_and ?_ | refine bi_or ?_ | refine bi_xor ?_ | refine bi_shr (by omega) (by decide) ?_ | refine bi_shl (by omega) (by decide) ?_ | refine bi_quo64 (by omega) ?_ | refine bi_rem64 (by omega) ?_ | refine bi_mul64 (by omega) ?_ | refine bi_neg ?_ | refine bi_un_xor32 ?_ | refine bi_add ?_ | refine bi_sub ?_ | refine bi_mul ?_ | refine bi_quo (by decide) ?_ | refine bi_rem (by decide) ?_)
  refine (New27 1 (by decide) (fun _ => 0) lease w4).mono ?_
  rintro _ w5 ⟨g1, c5, rfl, hc5, hS5, h5⟩
  have hb5 := below_then hb4 h5
  refine (refNew32 2 (by decide) c5 lease w5).mono ?_
  rintro _ w6 ⟨g2, c6, rfl, hc6, hR6, h6⟩
  have hb6 := below_then hb5 h6
  have hle1 : 1 ≤ max lease 1 := by omega
  have hle2 : max lease 1 ≤ 9223372036854775807 := by omega
  generalize max lease 1 = le at *
  have hs5 := h5.size
  have hlow : ∀ k, k < w4.heap.size → c6 k = 0 := fun k hk => (hc6 k (by omega)).trans (hc5 k hk)
  have hBo : Both c6 w6 g1 g2 le le 0 0 (fun _ => none) (fun _ => none) := ⟨(hS5.re hc6).below h6, hR6⟩
  have h46 := below_then h5 h6
  have hv4 := keeps_AcR _ _ _ _ hb4 hv
  refine ofPR (pr_pnil und41) ?_
  simp only [Option.isNone_some]
  (repeat with_reducible first | refine nck ?_ | refine cdT ?_ | refine cdF ?_ | refine gdY ?_ | refine gdFT ?_ | refine gdTF ?_ | refine gdU ?_ | refine gaY ?_ | refine gaFT ?_ | refine gaTF ?_ | refine pickT ?_ | refine pickF ?_ | refine bi_lss_t (by omega) ?_ | refine bi_lss_f (by omega) ?_ | refine bi_add64 (by omega) ?_ | refine bi_sub64 (by omega) ?_ | refine bi_eql_t (by omega) ?_ | refine bi_eql_f (by omega) ?_ | refine bi_neq_t (by omega) ?_ | refine bi_neq_f (by omega) ?_ | refine bi_gtr_t (by omega) ?_ | refine bi_gtr_f (by omega) ?_ | refine bi_leq_t (by omega) ?_ | refine bi_leq_f (by omega) ?_ | refine bi_geq_t (by omega) ?_ | refine bi_geq_f (by omega) ?_ | refine bi_xt0 ?_ | refine bi_xt1 ?_ | refine bi_xt2 ?_ | refine bi_xt3 ?_ | refine bi_T ?_ | refine bi_F ?_ | refine bi_not ?_ | refine bi_and ?_ | refine bi_or ?_ | refine bi_xor ?_ | refine bi_shr (by omega) (by decide) ?_ | refine bi_shl (by omega) (by decide) ?_ | refine bi_quo64 (by omega) ?_ | refine bi_rem64 (by omega) ?_ | refine bi_mul64 (by omega) ?_ | refine bi_neg ?_ | refine bi_un_xor32 ?_ | refine bi_add ?_ | refine bi_sub ?_ | refine bi_mul ?_ | refine bi_quo (by decide) ?_ | refine bi_rem (by decide) ?_)
  refine LoopP.inv1 (fun iv w' => ∃ (k : Nat) (c : Nat → Nat), k ≤ l.length ∧ iv = .int .i64 k ∧ (∀ j, j < w4.heap.size → c j = 0) ∧ Both c w' g1 g2 le le k k ((l.take k).foldl (actV le) fun _ => none) ((l.take k).foldl (actV le) fun _ => none) ∧ Below w4.heap.size w4 w') (fun iv _ => l.length - (intOf iv).toNat) ⟨0, c6, Nat.zero_le _, rfl, hlow, hBo, h46⟩ ?_
  clear hBo hlow h46 h5 h6 hS5 hR6 hs5 hc5 hc6
  rintro _ w7 ⟨k, c, hk, rfl, hlow, hBo, hb7⟩ J hJ
  dsimp only [List.headD_cons, List.tail_cons]
  refine ln und39 ?_
  refine bi_lss_c (fun hlt => ?_) (fun hlt => ?_)
  · have hk' : k < l.length := by omega
    have hokk : LkOk k le ((l.take k).foldl (actV le) fun _ => none) := by
      have := runV_ok hle1 (l.take k) (fun _ => none) (ok_nil le)
      rw [List.length_take, Nat.zero_add] at this
      exact this.mono (by omega)
    have hok1 := ok_act hokk hle1 l[k]
    have e1 := take_fold hk' (le := le) (fun _ => none)
    obtain ⟨a, us, ha, hus, hcell, hr⟩ := rRow.at hv4 k hk'
    subst ha
    subst hr
    have kc := keepC (w := w4) hcell
    have kl : ∀ w', Below w4.heap.size w4 w' → w'.cell? ((a.add (k * 4)).add 1) = some (.int .i64 l[k].id) := fun w' h => kc w' h 1 _ rfl
    have kR : ∀ w', Below w4.heap.size w4 w' → Blk w' gR 23 (rgA r) := fun w' h => hR4.below' h
    have hdr : Below w7.heap.size w7 w7.drew := (Below.refl _ _).drew
    (repeat with_reducible first | refine nck ?_ | refine cdT ?_ | refine cdF ?_ | refine gdY ?_ | refine gdFT ?_ | refine gdTF ?_ | refine gdU ?_ | refine gaY ?_ | refine gaFT ?_ | refine gaTF ?_ | refine pickT ?_ | refine pickF ?_ | refine bi_lss_t (by omega) ?_ | refine bi_lss_f (by omega) ?_ | refine bi_add64 (by omega) ?_ | refine bi_sub64 (by omega) ?_ | refine bi_eql_t (by omega) ?_ | refine bi_eql_f (by omega) ?_ | refine bi_neq_t (by omega) ?_ | refine bi_neq_f (by omega) ?_ | refine bi_gtr_t (by omega) ?_ | refine bi_gtr_f (by omega) ?_ | refine bi_leq_t (by omega) ?_ | refine bi_leq_f (by omega) ?_ | refine bi_geq_t (by omega) ?_ | refine bi_geq_f (by omega) ?_ | refine bi_xt0 ?_ | refine bi_xt1 ?_ | refine bi_xt2 ?_ | refine bi_xt3 ?_ | refine bi_T ?_ | refine bi_F ?_ | refine bi_not ?_ | refine bi_and ?_ | refine bi_or ?_ | refine bi_xor ?_ | refine bi_shr (by omega) (by decide) ?_ | refine bi_shl (by omega) (by decide) ?_ | refine bi_quo64 (by omega) ?_ | refine bi_rem64 (by omega) ?_ | refine bi_mul64 (by omega) ?_ | refine bi_neg ?_ | refine bi_un_xor32 ?_ | refine bi_add ?_ | refine bi_sub ?_ | refine bi_mul ?_ | refine bi_quo (by decide) ?_ | refine bi_rem (by decide) ?_)
    refine draw (Below w4.heap.size w4) (below_then hb7 hdr) ?_
    refine yixA und39 sz46 k hk' ?_
    refine yldR (us := acF l[k]) agg46 kc (by rw [sz46]; rfl) ?_
    refine act ?_
    refine (do31 (c := c) l[k] (hBo.below hdr) (hokk.mono (by omega)) (hokk.mono (by omega)) (by omega) (by omega) (hl64 _ (List.getElem_mem hk')) hle2).mono ?_
    rintro _ w8 ⟨b, rfl, hbt, hL⟩
    have := hbt rfl
    subst this
    obtain ⟨c8, hlow8, hB8, hb8⟩ := hL.keep hlow (below_then hb7 hdr)
    rw [← e1] at hB8 hok1
    generalize hVe : (l.take (k + 1)).foldl (actV le) (fun _ => none) = V at *
    have hokV : LkOk 500 le V := hok1.mono (by omega)
    refine ⟨_, hb8, fun _ h => h, ?_⟩
    (repeat with_reducible first | refine ynck ?_ | refine nck ?_ | refine cdT ?_ | refine cdF ?_ | refine gdY ?_ | refine gdFT ?_ | refine gdTF ?_ | refine gdU ?_ | refine gaY ?_ | refine gaFT ?_ | refine gaTF ?_ | refine pickT ?_ | refine pickF ?_ | refine yi_lss_t (by omega) ?_ | refine yi_lss_f (by omega) ?_ | refine yi_add64 (by omega) ?_ | refine yi_sub64 (by omega) ?_ | refine yi_eql_t (by omega) ?_ | refine yi_eql_f (by omega) ?_ | refine yi_neq_t (by omega) ?_ | refine yi_neq_f (by omega) ?_ | refine yi_gtr_t (by omega) ?_ | refine yi_gtr_f (by omega) ?_ | refine yi_leq_t (by omega) ?_ | refine yi_leq_f (by omega) ?_ | refine yi_geq_t (by omega) ?_ | refine yi_geq_f (by omega) ?_ | refine yi_xt0 ?_ | refine yi_xt1 ?_ | refine yi_xt2 ?_ | refine yi_xt3 ?_ | refine yi_T ?_ | refine yi_F ?_ | refine yi_not ?_ | refine yi_and ?_ | refine yi_or ?_ | refine yi_xor ?_ | refine yi_shr (by omega) (by decide) ?_ | refine yi_shl (by omega) (by decide) ?_ | refine yi_quo64 (by omega) ?_ | refine yi_rem64 (by omega) ?_ | refine yi_mul64 (by omega) ?_ | refine yi_neg ?_ | refine yi_un_xor32 ?_ | refine yi_add ?_ | refine yi_sub ?_ | refine yi_mul ?_ | refine yi_quo (by decide) ?_ | refine yi_rem (by decide) ?_)
    refine act ?_
    refine (Blocks30 s hB8.one).mono ?_
    rintro _ w9 ⟨b1, rfl, hq1, h9⟩
    have hb9 := below_then hb8 h9
    have hB9 := hB8.below h9
    refine ⟨_, hb9, fun _ h => h, ?_⟩
    (repeat with_reducible first | refine ynck ?_ | refine nck ?_ | refine cdT ?_ | refine cdF ?_ | refine gdY ?_ | refine gdFT ?_ | refine gdTF ?_ | refine gdU ?_ | refine gaY ?_ | refine gaFT ?_ | refine gaTF ?_ | refine pickT ?_ | refine pickF ?_ | refine yi_lss_t (by omega) ?_ | refine yi_lss_f (by omega) ?_ | refine yi_add64 (by omega) ?_ | refine yi_sub64 (by omega) ?_ | refine yi_eql_t (by omega) ?_ | refine yi_eql_f (by omega) ?_ | refine yi_neq_t (by omega) ?_ | refine yi_neq_f (by omega) ?_ | refine yi_gtr_t (by omega) ?_ | refine yi_gtr_f (by omega) ?_ | refine yi_leq_t (by omega) ?_ | refine yi_leq_f (by omega) ?_ | refine yi_geq_t (by omega) ?_ | refine yi_geq_f (by omega) ?_ | refine yi_xt0 ?_ | refine yi_xt1 ?_ | refine yi_xt2 ?_ | refine yi_xt3 ?_ | refine yi_T ?_ | refine yi_F ?_ | refine yi_not ?_ | refine yi_and ?_ | refine yi_or ?_ | refine yi_xor ?_ | refine yi_shr (by omega) (by decide) ?_ | refine yi_shl (by omega) (by decide) ?_ | refine yi_quo64 (by omega) ?_ | refine yi_rem64 (by omega) ?_ | refine yi_mul64 (by omega) ?_ | refine yi_neg ?_ | refine yi_un_xor32 ?_ | refine yi_add ?_ | refine yi_sub ?_ | refine yi_mul ?_ | refine yi_quo (by decide) ?_ | refine yi_rem (by decide) ?_)
    refine act ?_
    refine (refBlocks38 s hB9.two (by omega)).mono ?_
    rintro _ wa ⟨b2, rfl, hq2, ha⟩
    have hba := below_then hb9 ha
    have hBa := hB9.below ha
    refine ⟨_, hba, fun _ h => h, ?_⟩
    have : b2 = b1 := Bool.eq_iff_iff.2 (hq2.trans hq1.symm)
    subst this
    (repeat with_reducible first | refine ynck ?_ | refine nck ?_ | refine cdT ?_ | refine cdF ?_ | refine gdY ?_ | refine gdFT ?_ | refine gdTF ?_ | refine gdU ?_ | refine gaY ?_ | refine gaFT ?_ | refine gaTF ?_ | refine pickT ?_ | refine pickF ?_ | refine yi_lss_t (by omega) ?_ | refine yi_lss_f (by omega) ?_ | refine yi_add64 (by omega) ?_ | refine yi_sub64 (by omega) ?_ | refine yi_eql_t (by omega) ?_ | refine yi_eql_f (by omega) ?_ | refine yi_neq_t (by omega) ?_ | refine yi_neq_f (by omega) ?_ | refine yi_gtr_t (by omega) ?_ | refine yi_gtr_f (by omega) ?_ | refine yi_leq_t (by omega) ?_ | refine yi_leq_f (by omega) ?_ | refine yi_geq_t (by omega) ?_ | refine yi_geq_f (by omega) ?_ | refine yi_xt0 ?_ | refine yi_xt1 ?_ | refine yi_xt2 ?_ | refine yi_xt3 ?_ | refine yi_T ?_ | refine yi_F ?_ | refine yi_not ?_ | refine yi_and ?_ | refine yi_or ?_ | refine yi_xor ?_ | refine yi_shr (by omega) (by decide) ?_ | refine yi_shl (by omega) (by decide) ?_ | refine yi_quo64 (by omega) ?_ | refine yi_rem64 (by omega) ?_ | refine yi_mul64 (by omega) ?_ | refine yi_neg ?_ | refine yi_un_xor32 ?_ | refine yi_add ?_ | refine yi_sub ?_ | refine yi_mul ?_ | refine yi_quo (by decide) ?_ | refine yi_rem (by decide) ?_)
    refine bneq_Y und4 ?_
    (repeat with_reducible first | refine yixA und39 sz46 k hk' ?_ | refine yfdA a1 (by decide) ?_ | refine yl1 one3' kl ?_ | refine yldA agg23 kR (szR r) ?_ | refine ynck ?_ | refine nck ?_ | refine cdT ?_ | refine cdF ?_ | refine gdY ?_ | refine gdFT ?_ | refine gdTF ?_ | refine gdU ?_ | refine gaY ?_ | refine gaFT ?_ | refine gaTF ?_ | refine pickT ?_ | refine pickF ?_ | refine yi_lss_t (by omega) ?_ | refine yi_lss_f (by omega) ?_ | refine yi_add64 (by omega) ?_ | refine yi_sub64 (by omega) ?_ | refine yi_eql_t (by omega) ?_ | refine yi_eql_f (by omega) ?_ | refine yi_neq_t (by omega) ?_ | refine yi_neq_f (by omega) ?_ | refine yi_gtr_t (by omega) ?_ | refine yi_gtr_f (by omega) ?_ | refine yi_leq_t (by omega) ?_ | refine yi_leq_f (by omega) ?_ | refine yi_geq_t (by omega) ?_ | refine yi_geq_f (by omega) ?_ | refine yi_xt0 ?_ | refine yi_xt1 ?_ | refine yi_xt2 ?_ | refine yi_xt3 ?_ | refine yi_T ?_ | refine yi_F ?_ | refine yi_not ?_ | refine yi_and ?_ | refine yi_or ?_ | refine yi_xor ?_ | refine yi_shr (by omega) (by decide) ?_ | refine yi_shl (by omega) (by decide) ?_ | refine yi_quo64 (by omega) ?_ | refine yi_rem64 (by omega) ?_ | refine yi_mul64 (by omega) ?_ | refine yi_neg ?_ | refine yi_un_xor32 ?_ | refine yi_add ?_ | refine yi_sub ?_ | refine yi_mul ?_ | refine yi_quo (by decide) ?_ | refine yi_rem (by decide) ?_)
    refine act ?_
    refine (Holds29 l[k].id r hBa.one hokV).mono ?_
    rintro _ wb ⟨b3, rfl, hq3, hb⟩
    have hbb := below_then hba hb
    have hBb := hBa.below hb
    refine ⟨_, hbb, fun _ h => h, ?_⟩
    (repeat with_reducible first | refine ynck ?_ | refine nck ?_ | refine cdT ?_ | refine cdF ?_ | refine gdY ?_ | refine gdFT ?_ | refine gdTF ?_ | refine gdU ?_ | refine gaY ?_ | refine gaFT ?_ | refine gaTF ?_ | refine pickT ?_ | refine pickF ?_ | refine yi_lss_t (by omega) ?_ | refine yi_lss_f (by omega) ?_ | refine yi_add64 (by omega) ?_ | refine yi_sub64 (by omega) ?_ | refine yi_eql_t (by omega) ?_ | refine yi_eql_f (by omega) ?_ | refine yi_neq_t (by omega) ?_ | refine yi_neq_f (by omega) ?_ | refine yi_gtr_t (by omega) ?_ | refine yi_gtr_f (by omega) ?_ | refine yi_leq_t (by omega) ?_ | refine yi_leq_f (by omega) ?_ | refine yi_geq_t (by omega) ?_ | refine yi_geq_f (by omega) ?_ | refine yi_xt0 ?_ | refine yi_xt1 ?_ | refine yi_xt2 ?_ | refine yi_xt3 ?_ | refine yi_T ?_ | refine yi_F ?_ | refine yi_not ?_ | refine yi_and ?_ | refine yi_or ?_ | refine yi_xor ?_ | refine yi_shr (by omega) (by decide) ?_ | refine yi_shl (by omega) (by decide) ?_ | refine yi_quo64 (by omega) ?_ | refine yi_rem64 (by omega) ?_ | refine yi_mul64 (by omega) ?_ | refine yi_neg ?_ | refine yi_un_xor32 ?_ | refine yi_add ?_ | refine yi_sub ?_ | refine yi_mul ?_ | refine yi_quo (by decide) ?_ | refine yi_rem (by decide) ?_)
    refine act ?_
    refine (refHolds39 l[k].id r hBb.two hokV (by omega)).mono ?_
    rintro _ wc ⟨b4, rfl, hq4, hc⟩
    have hbc := below_then hbb hc
    have hBc := hBb.below hc
    refine ⟨_, hbc, fun _ h => h, ?_⟩
    have : b4 = b3 := Bool.eq_iff_iff.2 (hq4.trans hq3.symm)
    subst this
    (repeat with_reducible first | refine ynck ?_ | refine nck ?_ | refine cdT ?_ | refine cdF ?_ | refine gdY ?_ | refine gdFT ?_ | refine gdTF ?_ | refine gdU ?_ | refine gaY ?_ | refine gaFT ?_ | refine gaTF ?_ | refine pickT ?_ | refine pickF ?_ | refine yi_lss_t (by omega) ?_ | refine yi_lss_f (by omega) ?_ | refine yi_add64 (by omega) ?_ | refine yi_sub64 (by omega) ?_ | refine yi_eql_t (by omega) ?_ | refine yi_eql_f (by omega) ?_ | refine yi_neq_t (by omega) ?_ | refine yi_neq_f (by omega) ?_ | refine yi_gtr_t (by omega) ?_ | refine yi_gtr_f (by omega) ?_ | refine yi_leq_t (by omega) ?_ | refine yi_leq_f (by omega) ?_ | refine yi_geq_t (by omega) ?_ | refine yi_geq_f (by omega) ?_ | refine yi_xt0 ?_ | refine yi_xt1 ?_ | refine yi_xt2 ?_ | refine yi_xt3 ?_ | refine yi_T ?_ | refine yi_F ?_ | refine yi_not ?_ | refine yi_and ?_ | refine yi_or ?_ | refine yi_xor ?_ | refine yi_shr (by omega) (by decide) ?_ | refine yi_shl (by omega) (by decide) ?_ | refine yi_quo64 (by omega) ?_ | refine yi_rem64 (by omega) ?_ | refine yi_mul64 (by omega) ?_ | refine yi_neg ?_ | refine yi_un_xor32 ?_ | refine yi_add ?_ | refine yi_sub ?_ | refine yi_mul ?_ | refine yi_quo (by decide) ?_ | refine yi_rem (by decide) ?_)
    refine bneq_Y und4 ?_
    (repeat with_reducible first | refine ynck ?_ | refine nck ?_ | refine cdT ?_ | refine cdF ?_ | refine gdY ?_ | refine gdFT ?_ | refine gdTF ?_ | refine gdU ?_ | refine gaY ?_ | refine gaFT ?_ | refine gaTF ?_ | refine pickT ?_ | refine pickF ?_ | refine yi_lss_t (by omega) ?_ | refine yi_lss_f (by omega) ?_ | refine yi_add64 (by omega) ?_ | refine yi_sub64 (by omega) ?_ | refine yi_eql_t (by omega) ?_ | refine yi_eql_f (by omega) ?_ | refine yi_neq_t (by omega) ?_ | refine yi_neq_f (by omega) ?_ | refine yi_gtr_t (by omega) ?_ | refine yi_gtr_f (by omega) ?_ | refine yi_leq_t (by omega) ?_ | refine yi_leq_f (by omega) ?_ | refine yi_geq_t (by omega) ?_ | refine yi_geq_f (by omega) ?_ | refine yi_xt0 ?_ | refine yi_xt1 ?_ | refine yi_xt2 ?_ | refine yi_xt3 ?_ | refine yi_T ?_ | refine yi_F ?_ | refine yi_not ?_ | refine yi_and ?_ | refine yi_or ?_ | refine yi_xor ?_ | refine yi_shr (by omega) (by decide) ?_ | refine yi_shl (by omega) (by decide) ?_ | refine yi_quo64 (by omega) ?_ | refine yi_rem64 (by omega) ?_ | refine yi_mul64 (by omega) ?_ | refine yi_neg ?_ | refine yi_un_xor32 ?_ | refine yi_add ?_ | refine yi_sub ?_ | refine yi_mul ?_ | refine yi_quo (by decide) ?_ | refine yi_rem (by decide) ?_)
    refine act ?_
    refine (Ids37 hBc.one (by omega)).mono ?_
    rintro vd wd ⟨ids, hI1, hil, hod, hfd, hd⟩
    have hbd := below_then hbc hd
    have hBd := hBc.below hd
    refine ⟨_, hbd, fun _ h => h, ?_⟩
    (repeat with_reducible first | refine ynck ?_ | refine nck ?_ | refine cdT ?_ | refine cdF ?_ | refine gdY ?_ | refine gdFT ?_ | refine gdTF ?_ | refine gdU ?_ | refine gaY ?_ | refine gaFT ?_ | refine gaTF ?_ | refine pickT ?_ | refine pickF ?_ | refine yi_lss_t (by omega) ?_ | refine yi_lss_f (by omega) ?_ | refine yi_add64 (by omega) ?_ | refine yi_sub64 (by omega) ?_ | refine yi_eql_t (by omega) ?_ | refine yi_eql_f (by omega) ?_ | refine yi_neq_t (by omega) ?_ | refine yi_neq_f (by omega) ?_ | refine yi_gtr_t (by omega) ?_ | refine yi_gtr_f (by omega) ?_ | refine yi_leq_t (by omega) ?_ | refine yi_leq_f (by omega) ?_ | refine yi_geq_t (by omega) ?_ | refine yi_geq_f (by omega) ?_ | refine yi_xt0 ?_ | refine yi_xt1 ?_ | refine yi_xt2 ?_ | refine yi_xt3 ?_ | refine yi_T ?_ | refine yi_F ?_ | refine yi_not ?_ | refine yi_and ?_ | refine yi_or ?_ | refine yi_xor ?_ | refine yi_shr (by omega) (by decide) ?_ | refine yi_shl (by omega) (by decide) ?_ | refine yi_quo64 (by omega) ?_ | refine yi_rem64 (by omega) ?_ | refine yi_mul64 (by omega) ?_ | refine yi_neg ?_ | refine yi_un_xor32 ?_ | refine yi_add ?_ | refine yi_sub ?_ | refine yi_mul ?_ | refine yi_quo (by decide) ?_ | refine yi_rem (by decide) ?_)
    refine act ?_
    refine (refIds41 hBd.two (by omega)).mono ?_
    rintro ve we ⟨ids', hI2, hil', hoe, hfe, he⟩
    have hbe := below_then hbd he
    have hBe := hBd.below he
    refine ⟨_, hbe, fun _ h => h, ?_⟩
    have := idsOf_one hI2 hI1
    subst this
    (repeat with_reducible first | refine ynck ?_ | refine nck ?_ | refine cdT ?_ | refine cdF ?_ | refine gdY ?_ | refine gdFT ?_ | refine gdTF ?_ | refine gdU ?_ | refine gaY ?_ | refine gaFT ?_ | refine gaTF ?_ | refine pickT ?_ | refine pickF ?_ | refine yi_lss_t (by omega) ?_ | refine yi_lss_f (by omega) ?_ | refine yi_add64 (by omega) ?_ | refine yi_sub64 (by omega) ?_ | refine yi_eql_t (by omega) ?_ | refine yi_eql_f (by omega) ?_ | refine yi_neq_t (by omega) ?_ | refine yi_neq_f (by omega) ?_ | refine yi_gtr_t (by omega) ?_ | refine yi_gtr_f (by omega) ?_ | refine yi_leq_t (by omega) ?_ | refine yi_leq_f (by omega) ?_ | refine yi_geq_t (by omega) ?_ | refine yi_geq_f (by omega) ?_ | refine yi_xt0 ?_ | refine yi_xt1 ?_ | refine yi_xt2 ?_ | refine yi_xt3 ?_ | refine yi_T ?_ | refine yi_F ?_ | refine yi_not ?_ | refine yi_and ?_ | refine yi_or ?_ | refine yi_xor ?_ | refine yi_shr (by omega) (by decide) ?_ | refine yi_shl (by omega) (by decide) ?_ | refine yi_quo64 (by omega) ?_ | refine yi_rem64 (by omega) ?_ | refine yi_mul64 (by omega) ?_ | refine yi_neg ?_ | refine yi_un_xor32 ?_ | refine yi_add ?_ | refine yi_sub ?_ | refine yi_mul ?_ | refine yi_quo (by decide) ?_ | refine yi_rem (by decide) ?_)
    refine act ?_
    refine (sameInts40 vd ve ids' we (hod.rd.below he) hoe.rd (by omega)).mono ?_
    rintro _ wf ⟨rfl, hf⟩
    have hbf := below_then hbe hf
    have hBf := hBe.below hf
    refine ⟨_, hbf, fun _ h => h, ?_⟩
    (repeat with_reducible first | refine yixA und39 sz46 k hk' ?_ | refine yfdA a1 (by decide) ?_ | refine yl1 one3' kl ?_ | refine ynck ?_ | refine nck ?_ | refine cdT ?_ | refine cdF ?_ | refine gdY ?_ | refine gdFT ?_ | refine gdTF ?_ | refine gdU ?_ | refine gaY ?_ | refine gaFT ?_ | refine gaTF ?_ | refine pickT ?_ | refine pickF ?_ | refine yi_lss_t (by omega) ?_ | refine yi_lss_f (by omega) ?_ | refine yi_add64 (by omega) ?_ | refine yi_sub64 (by omega) ?_ | refine yi_eql_t (by omega) ?_ | refine yi_eql_f (by omega) ?_ | refine yi_neq_t (by omega) ?_ | refine yi_neq_f (by omega) ?_ | refine yi_gtr_t (by omega) ?_ | refine yi_gtr_f (by omega) ?_ | refine yi_leq_t (by omega) ?_ | refine yi_leq_f (by omega) ?_ | refine yi_geq_t (by omega) ?_ | refine yi_geq_f (by omega) ?_ | refine yi_xt0 ?_ | refine yi_xt1 ?_ | refine yi_xt2 ?_ | refine yi_xt3 ?_ | refine yi_T ?_ | refine yi_F ?_ | refine yi_not ?_ | refine yi_and ?_ | refine yi_or ?_ | refine yi_xor ?_ | refine yi_shr (by omega) (by decide) ?_ | refine yi_shl (by omega) (by decide) ?_ | refine yi_quo64 (by omega) ?_ | refine yi_rem64 (by omega) ?_ | refine yi_mul64 (by omega) ?_ | refine yi_neg ?_ | refine yi_un_xor32 ?_ | refine yi_add ?_ | refine yi_sub ?_ | refine yi_mul ?_ | refine yi_quo (by decide) ?_ | refine yi_rem (by decide) ?_)
    refine act ?_
    refine (Ranges35 l[k].id hBf.one hokV).mono ?_
    rintro vg wg ⟨hog, hg⟩
    have hbg := below_then hbf hg
    have hBg := hBf.below hg
    refine ⟨_, hbg, fun _ h => h, ?_⟩
    (repeat with_reducible first | refine ynck ?_ | refine nck ?_ | refine cdT ?_ | refine cdF ?_ | refine gdY ?_ | refine gdFT ?_ | refine gdTF ?_ | refine gdU ?_ | refine gaY ?_ | refine gaFT ?_ | refine gaTF ?_ | refine pickT ?_ | refine pickF ?_ | refine yi_lss_t (by omega) ?_ | refine yi_lss_f (by omega) ?_ | refine yi_add64 (by omega) ?_ | refine yi_sub64 (by omega) ?_ | refine yi_eql_t (by omega) ?_ | refine yi_eql_f (by omega) ?_ | refine yi_neq_t (by omega) ?_ | refine yi_neq_f (by omega) ?_ | refine yi_gtr_t (by omega) ?_ | refine yi_gtr_f (by omega) ?_ | refine yi_leq_t (by omega) ?_ | refine yi_leq_f (by omega) ?_ | refine yi_geq_t (by omega) ?_ | refine yi_geq_f (by omega) ?_ | refine yi_xt0 ?_ | refine yi_xt1 ?_ | refine yi_xt2 ?_ | refine yi_xt3 ?_ | refine yi_T ?_ | refine yi_F ?_ | refine yi_not ?_ | refine yi_and ?_ | refine yi_or ?_ | refine yi_xor ?_ | refine yi_shr (by omega) (by decide) ?_ | refine yi_shl (by omega) (by decide) ?_ | refine yi_quo64 (by omega) ?_ | refine yi_rem64 (by omega) ?_ | refine yi_mul64 (by omega) ?_ | refine yi_neg ?_ | refine yi_un_xor32 ?_ | refine yi_add ?_ | refine yi_sub ?_ | refine yi_mul ?_ | refine yi_quo (by decide) ?_ | refine yi_rem (by decide) ?_)
    refine act ?_
    refine (refRanges42 l[k].id hBg.two (by omega)).mono ?_
    rintro vh _ ⟨hoh, rfl⟩
    refine ⟨_, hbg, fun _ h => h, ?_⟩
    (repeat with_reducible first | refine ynck ?_ | refine nck ?_ | refine cdT ?_ | refine cdF ?_ | refine gdY ?_ | refine gdFT ?_ | refine gdTF ?_ | refine gdU ?_ | refine gaY ?_ | refine gaFT ?_ | refine gaTF ?_ | refine pickT ?_ | refine pickF ?_ | refine yi_lss_t (by omega) ?_ | refine yi_lss_f (by omega) ?_ | refine yi_add64 (by omega) ?_ | refine yi_sub64 (by omega) ?_ | refine yi_eql_t (by omega) ?_ | refine yi_eql_f (by omega) ?_ | refine yi_neq_t (by omega) ?_ | refine yi_neq_f (by omega) ?_ | refine yi_gtr_t (by omega) ?_ | refine yi_gtr_f (by omega) ?_ | refine yi_leq_t (by omega) ?_ | refine yi_leq_f (by omega) ?_ | refine yi_geq_t (by omega) ?_ | refine yi_geq_f (by omega) ?_ | refine yi_xt0 ?_ | refine yi_xt1 ?_ | refine yi_xt2 ?_ | refine yi_xt3 ?_ | refine yi_T ?_ | refine yi_F ?_ | refine yi_not ?_ | refine yi_and ?_ | refine yi_or ?_ | refine yi_xor ?_ | refine yi_shr (by omega) (by decide) ?_ | refine yi_shl (by omega) (by decide) ?_ | refine yi_quo64 (by omega) ?_ | refine yi_rem64 (by omega) ?_ | refine yi_mul64 (by omega) ?_ | refine yi_neg ?_ | refine yi_un_xor32 ?_ | refine yi_add ?_ | refine yi_sub ?_ | refine yi_mul ?_ | refine yi_quo (by decide) ?_ | refine yi_rem (by decide) ?_)
    refine act ?_
    refine (same20 vg vh _ _ wg hog.rd hoh).mono ?_
    rintro _ wi ⟨rfl, hi⟩
    have hbi := below_then hbg hi
    have hBi := hBg.below hi
    refine ⟨_, hbi, fun _ h => h, ?_⟩
    rw [decide_eq_true rfl]
    (repeat with_reducible first | refine ynck ?_ | refine nck ?_ | refine cdT ?_ | refine cdF ?_ | refine gdY ?_ | refine gdFT ?_ | refine gdTF ?_ | refine gdU ?_ | refine gaY ?_ | refine gaFT ?_ | refine gaTF ?_ | refine pickT ?_ | refine pickF ?_ | refine yi_lss_t (by omega) ?_ | refine yi_lss_f (by omega) ?_ | refine yi_add64 (by omega) ?_ | refine yi_sub64 (by omega) ?_ | refine yi_eql_t (by omega) ?_ | refine yi_eql_f (by omega) ?_ | refine yi_neq_t (by omega) ?_ | refine yi_neq_f (by omega) ?_ | refine yi_gtr_t (by omega) ?_ | refine yi_gtr_f (by omega) ?_ | refine yi_leq_t (by omega) ?_ | refine yi_leq_f (by omega) ?_ | refine yi_geq_t (by omega) ?_ | refine yi_geq_f (by omega) ?_ | refine yi_xt0 ?_ | refine yi_xt1 ?_ | refine yi_xt2 ?_ | refine yi_xt3 ?_ | refine yi_T ?_ | refine yi_F ?_ | refine yi_not ?_ | refine yi_and ?_ | refine yi_or ?_ | refine yi_xor ?_ | refine yi_shr (by omega) (by decide) ?_ | refine yi_shl (by omega) (by decide) ?_ | refine yi_quo64 (by omega) ?_ | refine yi_rem64 (by omega) ?_ | refine yi_mul64 (by omega) ?_ | refine yi_neg ?_ | refine yi_un_xor32 ?_ | refine yi_add ?_ | refine yi_sub ?_ | refine yi_mul ?_ | refine yi_quo (by decide) ?_ | refine yi_rem (by decide) ?_)
    (repeat with_reducible first | refine nck ?_ | refine cdT ?_ | refine cdF ?_ | refine gdY ?_ | refine gdFT ?_ | refine gdTF ?_ | refine gdU ?_ | refine gaY ?_ | refine gaFT ?_ | refine gaTF ?_ | refine pickT ?_ | refine pickF ?_ | refine bi_lss_t (by omega) ?_ | refine bi_lss_f (by omega) ?_ | refine bi_add64 (by omega) ?_ | refine bi_sub64 (by omega) ?_ | refine bi_eql_t (by omega) ?_ | refine bi_eql_f (by omega) ?_ | refine bi_neq_t (by omega) ?_ | refine bi_neq_f (by omega) ?_ | refine bi_gtr_t (by omega) ?_ | refine bi_gtr_f (by omega) ?_ | refine bi_leq_t (by omega) ?_ | refine bi_leq_f (by omega) ?_ | refine bi_geq_t (by omega) ?_ | refine bi_geq_f (by omega) ?_ | refine bi_xt0 ?_ | refine bi_xt1 ?_ | refine bi_xt2 ?_ | refine bi_xt3 ?_ | refine bi_T ?_ | refine bi_F ?_ | refine bi_not ?_ | refine bi_and ?_ | refine bi_or ?_ | refine bi_xor ?_ | refine bi_shr (by omega) (by decide) ?_ | refine bi_shl (by omega) (by decide) ?_ | refine bi_quo64 (by omega) ?_ | refine bi_rem64 (by omega) ?_ | refine bi_mul64 (by omega) ?_ | refine bi_neg ?_ | refine bi_un_xor32 ?_ | refine bi_add ?_ | refine bi_sub ?_ | refine bi_mul ?_ | refine bi_quo (by decide) ?_ | refine bi_rem (by decide) ?_)
    refine hJ _ _ ⟨k + 1, c8, by omega, by simp, hlow8, ?_, hbi⟩ (by simp [intOf]; omega)
    rw [hVe]; exact hBi
  · (repeat with_reducible first | refine nck ?_ | refine cdT ?_ | refine cdF ?_ | refine gdY ?_ | refine gdFT ?_ | refine gdTF ?_ | refine gdU ?_ | refine gaY ?_ | refine gaFT ?_ | refine gaTF ?_ | refine pickT ?_ | refine pickF ?_ | refine bi_lss_t (by omega) ?_ | refine bi_lss_f (by omega) ?_ | refine bi_add64 (by omega) ?_ | refine bi_sub64 (by omega) ?_ | refine bi_eql_t (by omega) ?_ | refine bi_eql_f (by omega) ?_ | refine bi_neq_t (by omega) ?_ | refine bi_neq_f (by omega) ?_ | refine bi_gtr_t (by omega) ?_ | refine bi_gtr_f (by omega) ?_ | refine bi_leq_t (by omega) ?_ | refine bi_leq_f (by omega) ?_ | refine bi_geq_t (by omega) ?_ | refine bi_geq_f (by omega) ?_ | refine bi_xt0 ?_ | refine bi_xt1 ?_ | refine bi_xt2 ?_ | refine bi_xt3 ?_ | refine bi_T ?_ | refine bi_F ?_ | refine bi_not ?_ | refine bi_and ?_ | refine bi_or ?_ | refine bi_xor ?_ | refine bi_shr (by omega) (by decide) ?_ | refine bi_shl (by omega) (by decide) ?_ | refine bi_quo64 (by omega) ?_ | refine bi_rem64 (by omega) ?_ | refine bi_mul64 (by omega) ?_ | refine bi_neg ?_ | refine bi_un_xor32 ?_ | refine bi_add ?_ | refine bi_sub ?_ | refine bi_mul ?_ | refine bi_quo (by decide) ?_ | refine bi_rem (by decide) ?_)
    exact ⟨trivial, below_then hb4 hb7⟩
end Go.Proofs.Ytcihbjempijhpaa.E
/- LockHolds. -/
namespace Go.Proofs.Ytcihbjempijhpaa.E
open Go Go.RowKit
set_option linter.unusedSimpArgs false
set_option linter.unusedVariables false

theorem act_keep {le : Int} {V : LkV} {a : Act3} {id : Int} (h5 : a.kind ≠ 5) (h4 : a.kind ≠ 4) (ho : ¬ ((1 ≤ a.kind ∧ a.kind ≤ 3) ∧ a.id = id)) : actV le V a id = V id := by
  unfold actV
  split
  · rename_i h1
    unfold takeV
    split
    · rfl
    · simp only
      rw [if_neg (fun e => ho ⟨by omega, e.symm⟩)]
  · split
    · unfold renewV
      rw [if_neg (fun e => ho ⟨by omega, e.symm⟩)]
    · split
      · unfold freeV
        rw [if_neg (fun e => ho ⟨by omega, e.symm⟩)]
      · first
          | rfl
          | rw [if_neg h4, if_neg h5]
/-- A lock that was taken t ticks ago. -/
def heldI (lease id : Int) (r : Rg) (V : LkV) (t : Int) : Prop := V id = if t < lease then some (lst [r], lease - t) else none
theorem held_tick {lease id t : Int} {r : Rg} {V : LkV} (h : heldI lease id r V t) (ht : t < lease) (hr : ¬ emptyR r) : heldI lease id r (tickV V) (t + 1) := by
  unfold heldI tickV at *
  rw [h, if_pos ht]
  show sweepF (lst [r], lease - t - 1) = _
  have hne : lst [r] ≠ [] := lst_ne (r := r) (by simp) hr
  unfold sweepF
  by_cases h1 : lease - t - 1 = 0
  · rw [if_pos (.inl h1), if_neg (by omega)]
  · rw [if_neg (fun e => e.elim h1 hne), if_pos (by omega)]
    show some (lst [r], lease - t - 1) = _
    rw [show lease - t - 1 = lease - (t + 1) by omega]
theorem held_holds {lease id t : Int} {r : Rg} {V : LkV} (h : heldI lease id r V t) (ht : t < lease) : holdsV V id r := by
  unfold heldI at h
  rw [if_pos ht] at h
  exact ⟨_, _, h, fun s hs => ((lst_spec [r]).2 s).2 ⟨r, by simp, hs⟩⟩
theorem held_blocks {lease id t : Int} {r : Rg} {V : LkV} {s : Txt} (h : heldI lease id r V t) (ht : t < lease) (hs : hasR r s) : blocksV V s := by
  unfold heldI at h
  rw [if_pos ht] at h
  exact ⟨_, _, _, h, ((lst_spec [r]).2 s).2 ⟨r, by simp, hs⟩⟩
theorem held_end {lease id : Int} {r : Rg} {V : LkV} (h : heldI lease id r V lease) : V id = none := by
  unfold heldI at h
  rw [if_neg (by omega)] at h
  exact h
theorem lockHolds (lease id : Int) (hid : id ≤ 9223372036854775807) (r : Rg) (s : Txt) (v : Value) (l : List Act3) (hl64 : ∀ a ∈ l, a.id ≤ 9223372036854775807) (w : World) (hv : AcR w [v] l) :
    CallP Try.prog 7 #[.int .i64 lease, .int .i64 id, rgV r, tS s, v] (fun u w' => u = .bool true ∧ Below w.heap.size w w') w := by
  obtain ⟨A, cA, rfl, hcA, hmA⟩ := hv.slice
  refine ⟨S7.calls _ _ _ _ _ _ _ ?_⟩
  unfold S7
  refine bxB ?_
  intro gR w1 hgR hR1 hb1
  refine (awake25 w1).mono ?_
  rintro _ w2 ⟨rfl, h2⟩
  have hb2 := below_then hb1 h2
  have hR2 := hR1.below' h2
  (repeat with_reducible first | refine nck ?_ | refine cdT ?_ | refine cdF ?_ | refine gdY ?_ | refine gdFT ?_ | refine gdTF ?_ | refine gdU ?_ | refine gaY ?_ | refine gaFT ?_ | refine gaTF ?_ | refine pickT ?_ | refine pickF ?_ | refine bi_lss_t (by omega) ?_ | refine bi_lss_f (by omega) ?_ | refine bi_add64 (by omega) ?_ | refine bi_sub64 (by omega) ?_ | refine bi_eql_t (by omega) ?_ | refine bi_eql_f (by omega) ?_ | refine bi_neq_t (by omega) ?_ | refine bi_neq_f (by omega) ?_ | refine bi_gtr_t (by omega) ?_ | refine bi_gtr_f (by omega) ?_ | refine bi_leq_t (by omega) ?_ | refine bi_leq_f (by omega) ?_ | refine bi_geq_t (by omega) ?_ | refine bi_geq_f (by omega) ?_ | refine bi_xt0 ?_ | refine bi_xt1 ?_ | refine bi_xt2 ?_ | refine bi_xt3 ?_ | refine bi_T ?_ | refine bi_F ?_ | refine bi_not ?_ | refine bi_and ?_ | refine bi_or ?_ | refine bi_xor ?_ | refine bi_shr (by omega) (by decide) ?_ | refine bi_shl (by omega) (by decide) ?_ | refine bi_quo64 (by omega) ?_ | refine bi_rem64 (by omega) ?_ | refine bi_mul64 (by omega) ?_ | refine bi_neg ?_ | refine bi_un_xor32 ?_ | refine bi_add ?_ | refine bi_sub ?_ | refine bi_mul ?_ | refine bi_quo (by decide) ?_ | refine bi_rem (by decide) ?_)
  refine (light26 _ l w2 (keeps_AcR _ _ _ _ hb2 hv)).mono ?_
  rintro _ w3 ⟨z, rfl, hz, h3⟩
  have hb3 := below_then hb2 h3
  have hR3 := hR2.below' h3
  cases z with
  | false =>
    (repeat with_reducible first | refine nck ?_ | refine cdT ?_ | refine cdF ?_ | refine gdY ?_ | refine gdFT ?_ | refine gdTF ?_ | refine gdU ?_ | refine gaY ?_ | refine gaFT ?_ | refine gaTF ?_ | refine pickT ?_ | refine pickF ?_ | refine bi_lss_t (by omega) ?_ | refine bi_lss_f (by omega) ?_ | refine bi_add64 (by omega) ?_ | refine bi_sub64 (by omega) ?_ | refine bi_eql_t (by omega) ?_ | refine bi_eql_f (by omega) ?_ | refine bi_neq_t (by omega) ?_ | refine bi_neq_f (by omega) ?_ | refine bi_gtr_t (by omega) ?_ | refine bi_gtr_f (by omega) ?_ | refine bi_leq_t (by omega) ?_ | refine bi_leq_f (by omega) ?_ | refine bi_geq_t (by omega) ?_ | refine bi_geq_f (by omega) ?_ | refine bi_xt0 ?_ | refine bi_xt1 ?_ | refine bi_xt2 ?_ | refine bi_xt3 ?_ | refine bi_T ?_ | refine bi_F ?_ | refine bi_not ?_ | refine bi_and ?_ | refine bi_or ?_ | refine bi_xor ?_ | refine bi_shr (by omega) (by decide) ?_ | refine bi_shl (by omega) (by decide) ?_ | refine bi_quo64 (by omega) ?_ | refine bi_rem64 (by omega) ?_ | refine bi_mul64 (by omega) ?_ | refine bi_neg ?_ | refine bi_un_xor32 ?_ | refine bi_add ?_ | refine bi_sub ?_ | refine bi_mul ?_ | refine bi_quo (by decide) ?_ | refine bi_rem (by decide) ?_)
    exact ⟨rfl, hb3⟩
  | true =>
  have hl := hz rfl
  (repeat with_reducible first | refine nck ?_ | refine cdT ?_ | refine cdF ?_ | refine gdY ?_ | refine gdFT ?_ | refine gdTF ?_ | refine gdU ?_ | refine gaY ?_ | refine gaFT ?_ | refine gaTF ?_ | refine pickT ?_ | refine pickF ?_ | refine bi_lss_t (by omega) ?_ | refine bi_lss_f (by omega) ?_ | refine bi_add64 (by omega) ?_ | refine bi_sub64 (by omega) ?_ | refine bi_eql_t (by omega) ?_ | refine bi_eql_f (by omega) ?_ | refine bi_neq_t (by omega) ?_ | refine bi_neq_f (by omega) ?_ | refine bi_gtr_t (by omega) ?_ | refine bi_gtr_f (by omega) ?_ | refine bi_leq_t (by omega) ?_ | refine bi_leq_f (by omega) ?_ | refine bi_geq_t (by omega) ?_ | refine bi_geq_f (by omega) ?_ | refine bi_xt0 ?_ | refine bi_xt1 ?_ | refine bi_xt2 ?_ | refine bi_xt3 ?_ | refine bi_T ?_ | refine bi_F ?_ | refine bi_not ?_ | refine bi_and ?_ | refine bi_or ?_ | refine bi_xor ?_ | refine bi_shr (by omega) (by decide) ?_ | refine bi_shl (by omega) (by decide) ?_ | refine bi_quo64 (by omega) ?_ | refine bi_rem64 (by omega) ?_ | refine bi_mul64 (by omega) ?_ | refine bi_neg ?_ | refine bi_un_xor32 ?_ | refine bi_add ?_ | refine bi_sub ?_ | refine bi_mul ?_ | refine bi_quo (by decide) ?_ | refine bi_rem (by decide) ?_)
  refine ldA agg23 hR3 (szR r) ?_
  (repeat with_reducible first | refine nck ?_ | refine cdT ?_ | refine cdF ?_ | refine gdY ?_ | refine gdFT ?_ | refine gdTF ?_ | refine gdU ?_ | refine gaY ?_ | refine gaFT ?_ | refine gaTF ?_ | refine pickT ?_ | refine pickF ?_ | refine bi_lss_t (by omega) ?_ | refine bi_lss_f (by omega) ?_ | refine bi_add64 (by omega) ?_ | refine bi_sub64 (by omega) ?_ | refine bi_eql_t (by omega) ?_ | refine bi_eql_f (by omega) ?_ | refine bi_neq_t (by omega) ?_ | refine bi_neq_f (by omega) ?_ | refine bi_gtr_t (by omega) ?_ | refine bi_gtr_f (by omega) ?_ | refine bi_leq_t (by omega) ?_ | refine bi_leq_f (by omega) ?_ | refine bi_geq_t (by omega) ?_ | refine bi_geq_f (by omega) ?_ | refine bi_xt0 ?_ | refine bi_xt1 ?_ | refine bi_xt2 ?_ | refine bi_xt3 ?_ | refine bi_T ?_ | refine bi_F ?_ | refine bi_not ?_ | refine bi_and ?_ | refine bi_or ?_ | refine bi_xor ?_ | refine bi_shr (by omega) (by decide) ?_ | refine bi_shl (by omega) (by decide) ?_ | refine bi_quo64 (by omega) ?_ | refine bi_rem64 (by omega) ?_ | refine bi_mul64 (by omega) ?_ | refine bi_neg ?_ | refine bi_un_xor32 ?_ | refine bi_add ?_ | refine bi_sub ?_ | refine bi_mul ?_ | refine bi_quo (by decide) ?_ | refine bi_rem (by decide) ?_)
  refine bs1R r ?_
  intro v4 w4 ho4 h4
  have hb4 := below_then hb3 h4
  have hR4 := hR3.below' h4
  (repeat with_reducible first | refine nck ?_ | refine cdT ?_ | refine cdF ?_ | refine gdY ?_ | refine gdFT ?_ | refine gdTF ?_ | refine gdU ?_ | refine gaY ?_ | refine gaFT ?_ | refine gaTF ?_ | refine pickT ?_ | refine pickF ?_ | refine bi_lss_t (by omega) ?_ | refine bi_lss_f (by omega) ?_ | refine bi_add64 (by omega) ?_ | refine bi_sub64 (by omega) ?_ | refine bi_eql_t (by omega) ?_ | refine bi_eql_f (by omega) ?_ | refine bi_neq_t (by omega) ?_ | refine bi_neq_f (by omega) ?_ | refine bi_gtr_t (by omega) ?_ | refine bi_gtr_f (by omega) ?_ | refine bi_leq_t (by omega) ?_ | refine bi_leq_f (by omega) ?_ | refine bi_geq_t (by omega) ?_ | refine bi_geq_f (by omega) ?_ | refine bi_xt0 ?_ | refine bi_xt1 ?_ | refine bi_xt2 ?_ | refine bi_xt3 ?_ | refine bi_T ?_ | refine bi_F ?_ | refine bi_not ?_ | refine bi_and ?_ | refine bi_or ?_ | refine bi_xor ?_ | refine bi_shr (by omega) (by decide) ?_ | refine bi_shl (by omega) (by decide) ?_ | refine bi_quo64 (by omega) ?_ | refine bi_rem64 (by omega) ?_ | refine bi_mul64 (by omega) ?_ | refine bi_neg ?_ | refine bi_un_xor32 ?_ | refine bi_add ?_ | refine bi_sub ?_ | refine bi_mul ?_ | refine bi_quo (by decide) ?_ | refine bi_rem (by decide) ?_)
  refine (light11 v4 [r] 1 (by decide) w4 ho4.rd).mono ?_
  rintro _ _ ⟨z, rfl, _, rfl⟩
  cases z with
  | false =>
    (repeat with_reducible first | refine nck ?_ | refine cdT ?_ | refine cdF ?_ | refine gdY ?_ | refine gdFT ?_ | refine gdTF ?_ | refine gdU ?_ | refine gaY ?_ | refine gaFT ?_ | refine gaTF ?_ | refine pickT ?_ | refine pickF ?_ | refine bi_lss_t (by omega) ?_ | refine bi_lss_f (by omega) ?_ | refine bi_add64 (by omega) ?_ | refine bi_sub64 (by omega) ?_ | refine bi_eql_t (by omega) ?_ | refine bi_eql_f (by omega) ?_ | refine bi_neq_t (by omega) ?_ | refine bi_neq_f (by omega) ?_ | refine bi_gtr_t (by omega) ?_ | refine bi_gtr_f (by omega) ?_ | refine bi_leq_t (by omega) ?_ | refine bi_leq_f (by omega) ?_ | refine bi_geq_t (by omega) ?_ | refine bi_geq_f (by omega) ?_ | refine bi_xt0 ?_ | refine bi_xt1 ?_ | refine bi_xt2 ?_ | refine bi_xt3 ?_ | refine bi_T ?_ | refine bi_F ?_ | refine bi_not ?_ | refine bi_and ?_ | refine bi_or ?_ | refine bi_xor ?_ | refine bi_shr (by omega) (by decide) ?_ | refine bi_shl (by omega) (by decide) ?_ | refine bi_quo64 (by omega) ?_ | refine bi_rem64 (by omega) ?_ | refine bi_mul64 (by omega) ?_ | refine bi_neg ?_ | refine bi_un_xor32 ?_ | refine bi_add ?_ | refine bi_sub ?_ | refine bi_mul ?_ | refine bi_quo (by decide) ?_ | refine bi_rem (by decide) ?_)
    exact ⟨rfl, hb4⟩
  | true =>
  (repeat with_reducible first | refine nck ?_ | refine cdT ?_ | refine cdF ?_ | refine gdY ?_ | refine gdFT ?_ | refine gdTF ?_ | refine gdU ?_ | refine gaY ?_ | refine gaFT ?_ | refine gaTF ?_ | refine pickT ?_ | refine pickF ?_ | refine bi_lss_t (by omega) ?_ | refine bi_lss_f (by omega) ?_ | refine bi_add64 (by omega) ?_ | refine bi_sub64 (by omega) ?_ | refine bi_eql_t (by omega) ?_ | refine bi_eql_f (by omega) ?_ | refine bi_neq_t (by omega) ?_ | refine bi_neq_f (by omega) ?_ | refine bi_gtr_t (by omega) ?_ | refine bi_gtr_f (by omega) ?_ | refine bi_leq_t (by omega) ?_ | refine bi_leq_f (by omega) ?_ | refine bi_geq_t (by omega) ?_ | refine bi_geq_f (by omega) ?_ | refine bi_xt0 ?_ | refine bi_xt1 ?_ | refine bi_xt2 ?_ | refine bi_xt3 ?_ | refine bi_T ?_ | refine bi_F ?_ | refine bi_not ?_ | refine bi_and ?_ | refine bi_or ?_ | refine bi_xor ?_ | refine bi_shr (by omega) (by decide) ?_ | refine bi_shl (by omega) (by decide) ?_ | refine bi_quo64 (by omega) ?_ | refine bi_rem64 (by omega) ?_ | refine bi_mul64 (by omega) ?_ | refine bi_neg ?_ | refine bi_un_xor32 ?_ | refine bi_add ?_ | refine bi_sub ?_ | refine bi_mul ?_ | refine bi_quo (by decide) ?_ | refine bi_rem (by decide) ?_)
  refine tln und9 ?_
  (repeat with_reducible first | refine nck ?_ | refine cdT ?_ | refine cdF ?_ | refine gdY ?_ | refine gdFT ?_ | refine gdTF ?_ | refine gdU ?_ | refine gaY ?_ | refine gaFT ?_ | refine gaTF ?_ | refine pickT ?_ | refine pickF ?_ | refine bi_lss_t (by omega) ?_ | refine bi_lss_f (by omega) ?_ | refine bi_add64 (by omega) ?_ | refine bi_sub64 (by omega) ?_ | refine bi_eql_t (by omega) ?_ | refine bi_eql_f (by omega) ?_ | refine bi_neq_t (by omega) ?_ | refine bi_neq_f (by omega) ?_ | refine bi_gtr_t (by omega) ?_ | refine bi_gtr_f (by omega) ?_ | refine bi_leq_t (by omega) ?_ | refine bi_leq_f (by omega) ?_ | refine bi_geq_t (by omega) ?_ | refine bi_geq_f (by omega) ?_ | refine bi_xt0 ?_ | refine bi_xt1 ?_ | refine bi_xt2 ?_ | refine bi_xt3 ?_ | refine bi_T ?_ | refine bi_F ?_ | refine bi_not ?_ | refine bi_and ?_ | refine bi_or ?_ | refine bi_xor ?_ | refine bi_shr (by omega) (by decide) ?_ | refine bi_shl (by omega) (by decide) ?_ | refine bi_quo64 (by omega) ?_ | refine bi_rem64 (by omega) ?_ | refine bi_mul64 (by omega) ?_ | refine bi_neg ?_ | refine bi_un_xor32 ?_ | refine bi_add ?_ | refine bi_sub ?_ | refine bi_mul ?_ | refine bi_quo (by decide) ?_ | refine bi_rem (by decide) ?_)
  refine bi_gtr_c (fun h => ?_) (fun h => ?_)
  · (repeat with_reducible first | refine nck ?_ | refine cdT ?_ | refine cdF ?_ | refine gdY ?_ | refine gdFT ?_ | refine gdTF ?_ | refine gdU ?_ | refine gaY ?_ | refine gaFT ?_ | refine gaTF ?_ | refine pickT ?_ | refine pickF ?_ | refine bi_lss_t (by omega) ?_ | refine bi_lss_f (by omega) ?_ | refine bi_add64 (by omega) ?_ | refine bi_sub64 (by omega) ?_ | refine bi_eql_t (by omega) ?_ | refine bi_eql_f (by omega) ?_ | refine bi_neq_t (by omega) ?_ | refine bi_neq_f (by omega) ?_ | refine bi_gtr_t (by omega) ?_ | refine bi_gtr_f (by omega) ?_ | refine bi_leq_t (by omega) ?_ | refine bi_leq_f (by omega) ?_ | refine bi_geq_t (by omega) ?_ | refine bi_geq_f (by omega) ?_ | refine bi_xt0 ?_ | refine bi_xt1 ?_ | refine bi_xt2 ?_ | refine bi_xt3 ?_ | refine bi_T ?_ | refine bi_F ?_ | refine bi_not ?_ | refine bi_and ?_ | refine bi_or ?_ | refine bi_xor ?_ | refine bi_shr (by omega) (by decide) ?_ | refine bi_shl (by omega) (by decide) ?_ | refine bi_quo64 (by omega) ?_ | refine bi_rem64 (by omega) ?_ | refine bi_mul64 (by omega) ?_ | refine bi_neg ?_ | refine bi_un_xor32 ?_ | refine bi_add ?_ | refine bi_sub ?_ | refine bi_mul ?_ | refine bi_quo (by decide) ?_ | refine bi_rem (by decide) ?_)
    exact ⟨rfl, hb4⟩
  (repeat with_reducible first | refine nck ?_ | refine cdT ?_ | refine cdF ?_ | refine gdY ?_ | refine gdFT ?_ | refine gdTF ?_ | refine gdU ?_ | refine gaY ?_ | refine gaFT ?_ | refine gaTF ?_ | refine pickT ?_ | refine pickF ?_ | refine bi_lss_t (by omega) ?_ | refine bi_lss_f (by omega) ?_ | refine bi_add64 (by omega) ?_ | refine bi_sub64 (by omega) ?_ | refine bi_eql_t (by omega) ?_ | refine bi_eql_f (by omega) ?_ | refine bi_neq_t (by omega) ?_ | refine bi_neq_f (by omega) ?_ | refine bi_gtr_t (by omega) ?_ | refine bi_gtr_f (by omega) ?_ | refine bi_leq_t (by omega) ?_ | refine bi_leq_f (by omega) ?_ | refine bi_geq_t (by omega) ?_ | refine bi_geq_f (by omega) ?_ | refine bi_xt0 ?_ | refine bi_xt1 ?_ | refine bi_xt2 ?_ | refine bi_xt3 ?_ | refine bi_T ?_ | refine bi_F ?_ | refine bi_not ?_ | refine bi_and ?_ | refine bi_or ?_ | refine bi_xor ?_ | refine bi_shr (by omega) (by decide) ?_ | refine bi_shl (by omega) (by decide) ?_ | refine bi_quo64 (by omega) ?_ | refine bi_rem64 (by omega) ?_ | refine bi_mul64 (by omega) ?_ | refine bi_neg ?_ | refine bi_un_xor32 ?_ | refine bi_add ?_ | refine bi_sub ?_ | refine bi_mul ?_ | refine bi_quo (by decide) ?_ | refine bi_rem (by decide) ?_)
  refine bi_lss_c (fun h => ?_) (fun hle1 => ?_)
  · (repeat with_reducible first | refine nck ?_ | refine cdT ?_ | refine cdF ?_ | refine gdY ?_ | refine gdFT ?_ | refine gdTF ?_ | refine gdU ?_ | refine gaY ?_ | refine gaFT ?_ | refine gaTF ?_ | refine pickT ?_ | refine pickF ?_ | refine bi_lss_t (by omega) ?_ | refine bi_lss_f (by omega) ?_ | refine bi_add64 (by omega) ?_ | refine bi_sub64 (by omega) ?_ | refine bi_eql_t (by omega) ?_ | refine bi_eql_f (by omega) ?_ | refine bi_neq_t (by omega) ?_ | refine bi_neq_f (by omega) ?_ | refine bi_gtr_t (by omega) ?_ | refine bi_gtr_f (by omega) ?_ | refine bi_leq_t (by omega) ?_ | refine bi_leq_f (by omega) ?_ | refine bi_geq_t (by omega) ?_ | refine bi_geq_f (by omega) ?_ | refine bi_xt0 ?_ | refine bi_xt1 ?_ | refine bi_xt2 ?_ | refine bi_xt3 ?_ | refine bi_T ?_ | refine bi_F ?_ | refine bi_not ?_ | refine bi_and ?_ | refine bi_or ?_ | refine bi_xor ?_ | refine bi_shr (by omega) (by decide) ?_ | refine bi_shl (by omega) (by decide) ?_ | refine bi_quo64 (by omega) ?_ | refine bi_rem64 (by omega) ?_ | refine bi_mul64 (by omega) ?_ | refine bi_neg ?_ | refine bi_un_xor32 ?_ | refine bi_add ?_ | refine bi_sub ?_ | refine bi_mul ?_ | refine bi_quo (by decide) ?_ | refine bi_rem (by decide) ?_)
    exact ⟨rfl, hb4⟩
  (repeat with_reducible first | refine nck ?_ | refine cdT ?_ | refine cdF ?_ | refine gdY ?_ | refine gdFT ?_ | refine gdTF ?_ | refine gdU ?_ | refine gaY ?_ | refine gaFT ?_ | refine gaTF ?_ | refine pickT ?_ | refine pickF ?_ | refine bi_lss_t (by omega) ?_ | refine bi_lss_f (by omega) ?_ | refine bi_add64 (by omega) ?_ | refine bi_sub64 (by omega) ?_ | refine bi_eql_t (by omega) ?_ | refine bi_eql_f (by omega) ?_ | refine bi_neq_t (by omega) ?_ | refine bi_neq_f (by omega) ?_ | refine bi_gtr_t (by omega) ?_ | refine bi_gtr_f (by omega) ?_ | refine bi_leq_t (by omega) ?_ | refine bi_leq_f (by omega) ?_ | refine bi_geq_t (by omega) ?_ | refine bi_geq_f (by omega) ?_ | refine bi_xt0 ?_ | refine bi_xt1 ?_ | refine bi_xt2 ?_ | refine bi_xt3 ?_ | refine bi_T ?_ | refine bi_F ?_ | refine bi_not ?_ | refine bi_and ?_ | refine bi_or ?_ | refine bi_xor ?_ | refine bi_shr (by omega) (by decide) ?_ | refine bi_shl (by omega) (by decide) ?_ | refine bi_quo64 (by omega) ?_ | refine bi_rem64 (by omega) ?_ | refine bi_mul64 (by omega) ?_ | refine bi_neg ?_ | refine bi_un_xor32 ?_ | refine bi_add ?_ | refine bi_sub ?_ | refine bi_mul ?_ | refine bi_quo (by decide) ?_ | refine bi_rem (by decide) ?_)
  refine bi_gtr_c (fun h => ?_) (fun hle2 => ?_)
  · (repeat with_reducible first | refine nck ?_ | refine cdT ?_ | refine cdF ?_ | refine gdY ?_ | refine gdFT ?_ | refine gdTF ?_ | refine gdU ?_ | refine gaY ?_ | refine gaFT ?_ | refine gaTF ?_ | refine pickT ?_ | refine pickF ?_ | refine bi_lss_t (by omega) ?_ | refine bi_lss_f (by omega) ?_ | refine bi_add64 (by omega) ?_ | refine bi_sub64 (by omega) ?_ | refine bi_eql_t (by omega) ?_ | refine bi_eql_f (by omega) ?_ | refine bi_neq_t (by omega) ?_ | refine bi_neq_f (by omega) ?_ | refine bi_gtr_t (by omega) ?_ | refine bi_gtr_f (by omega) ?_ | refine bi_leq_t (by omega) ?_ | refine bi_leq_f (by omega) ?_ | refine bi_geq_t (by omega) ?_ | refine bi_geq_f (by omega) ?_ | refine bi_xt0 ?_ | refine bi_xt1 ?_ | refine bi_xt2 ?_ | refine bi_xt3 ?_ | refine bi_T ?_ | refine bi_F ?_ | refine bi_not ?_ | refine bi_and ?_ | refine bi_or ?_ | refine bi_xor ?_ | refine bi_shr (by omega) (by decide) ?_ | refine bi_shl (by omega) (by decide) ?_ | refine bi_quo64 (by omega) ?_ | refine bi_rem64 (by omega) ?_ | refine bi_mul64 (by omega) ?_ | refine bi_neg ?_ | refine bi_un_xor32 ?_ | refine bi_add ?_ | refine bi_sub ?_ | refine bi_mul ?_ | refine bi_quo (by decide) ?_ | refine bi_rem (by decide) ?_)
    exact ⟨rfl, hb4⟩
  (repeat with_reducible first | refine nck ?_ | refine cdT ?_ | refine cdF ?_ | refine gdY ?_ | refine gdFT ?_ | refine gdTF ?_ | refine gdU ?_ | refine gaY ?_ | refine gaFT ?_ | refine gaTF ?_ | refine pickT ?_ | refine pickF ?_ | refine bi_lss_t (by omega) ?_ | refine bi_lss_f (by omega) ?_ | refine bi_add64 (by omega) ?_ | refine bi_sub64 (by omega) ?_ | refine bi_eql_t (by omega) ?_ | refine bi_eql_f (by omega) ?_ | refine bi_neq_t (by omega) ?_ | refine bi_neq_f (by omega) ?_ | refine bi_gtr_t (by omega) ?_ | refine bi_gtr_f (by omega) ?_ | refine bi_leq_t (by omega) ?_ | refine bi_leq_f (by omega) ?_ | refine bi_geq_t (by omega) ?_ | refine bi_geq_f (by omega) ?_ | refine bi_xt0 ?_ | refine bi_xt1 ?_ | refine bi_xt2 ?_ | refine bi_xt3 ?_ | refine bi_T ?_ | refine bi_F ?_ | refine bi_not ?_ | refine bi_and ?_ | refine bi_or ?_ | refine bi_xor ?_ | refine bi_shr (by omega) (by decide) ?_ | refine bi_shl (by omega) (by decide) ?_ | refine bi_quo64 (by omega) ?_ | refine bi_rem64 (by omega) ?_ | refine bi_mul64 (by omega) ?_ | refine bi_neg ?_ | refine bi_un_xor32 ?_ | refine bi_add ?_ | refine bi_sub ?_ | refine bi_mul ?_ | refine bi_quo (by decide) ?_ | refine bi_rem (by decide) ?_)
  refine bi_lss_c (fun h => ?_) (fun hid1 => ?_)
  · (repeat with_reducible first | refine nck ?_ | refine cdT ?_ | refine cdF ?_ | refine gdY ?_ | refine gdFT ?_ | refine gdTF ?_ | refine gdU ?_ | refine gaY ?_ | refine gaFT ?_ | refine gaTF ?_ | refine pickT ?_ | refine pickF ?_ | refine bi_lss_t (by omega) ?_ | refine bi_lss_f (by omega) ?_ | refine bi_add64 (by omega) ?_ | refine bi_sub64 (by omega) ?_ | refine bi_eql_t (by omega) ?_ | refine bi_eql_f (by omega) ?_ | refine bi_neq_t (by omega) ?_ | refine bi_neq_f (by omega) ?_ | refine bi_gtr_t (by omega) ?_ | refine bi_gtr_f (by omega) ?_ | refine bi_leq_t (by omega) ?_ | refine bi_leq_f (by omega) ?_ | refine bi_geq_t (by omega) ?_ | refine bi_geq_f (by omega) ?_ | refine bi_xt0 ?_ | refine bi_xt1 ?_ | refine bi_xt2 ?_ | refine bi_xt3 ?_ | refine bi_T ?_ | refine bi_F ?_ | refine bi_not ?_ | refine bi_and ?_ | refine bi_or ?_ | refine bi_xor ?_ | refine bi_shr (by omega) (by decide) ?_ | refine bi_shl (by omega) (by decide) ?_ | refine bi_quo64 (by omega) ?_ | refine bi_rem64 (by omega) ?_ | refine bi_mul64 (by omega) ?_ | refine bi_neg ?_ | refine bi_un_xor32 ?_ | refine bi_add ?_ | refine bi_sub ?_ | refine bi_mul ?_ | refine bi_quo (by decide) ?_ | refine bi_rem (by decide) ?_)
    exact ⟨rfl, hb4⟩
  (repeat with_reducible first | refine nck ?_ | refine cdT ?_ | refine cdF ?_ | refine gdY ?_ | refine gdFT ?_ | refine gdTF ?_ | refine gdU ?_ | refine gaY ?_ | refine gaFT ?_ | refine gaTF ?_ | refine pickT ?_ | refine pickF ?_ | refine bi_lss_t (by omega) ?_ | refine bi_lss_f (by omega) ?_ | refine bi_add64 (by omega) ?_ | refine bi_sub64 (by omega) ?_ | refine bi_eql_t (by omega) ?_ | refine bi_eql_f (by omega) ?_ | refine bi_neq_t (by omega) ?_ | refine bi_neq_f (by omega) ?_ | refine bi_gtr_t (by omega) ?_ | refine bi_gtr_f (by omega) ?_ | refine bi_leq_t (by omega) ?_ | refine bi_leq_f (by omega) ?_ | refine bi_geq_t (by omega) ?_ | refine bi_geq_f (by omega) ?_ | refine bi_xt0 ?_ | refine bi_xt1 ?_ | refine bi_xt2 ?_ | refine bi_xt3 ?_ | refine bi_T ?_ | refine bi_F ?_ | refine bi_not ?_ | refine bi_and ?_ | refine bi_or ?_ | refine bi_xor ?_ | refine bi_shr (by omega) (by decide) ?_ | refine bi_shl (by omega) (by decide) ?_ | refine bi_quo64 (by omega) ?_ | refine bi_rem64 (by omega) ?_ | refine bi_mul64 (by omega) ?_ | refine bi_neg ?_ | refine bi_un_xor32 ?_ | refine bi_add ?_ | refine bi_sub ?_ | refine bi_mul ?_ | refine bi_quo (by decide) ?_ | refine bi_rem (by decide) ?_)
  refine ldA agg23 hR4 (szR r) ?_
  (repeat with_reducible first | refine nck ?_ | refine cdT ?_ | refine cdF ?_ | refine gdY ?_ | refine gdFT ?_ | refine gdTF ?_ | refine gdU ?_ | refine gaY ?_ | refine gaFT ?_ | refine gaTF ?_ | refine pickT ?_ | refine pickF ?_ | refine bi_lss_t (by omega) ?_ | refine bi_lss_f (by omega) ?_ | refine bi_add64 (by omega) ?_ | refine bi_sub64 (by omega) ?_ | refine bi_eql_t (by omega) ?_ | refine bi_eql_f (by omega) ?_ | refine bi_neq_t (by omega) ?_ | refine bi_neq_f (by omega) ?_ | refine bi_gtr_t (by omega) ?_ | refine bi_gtr_f (by omega) ?_ | refine bi_leq_t (by omega) ?_ | refine bi_leq_f (by omega) ?_ | refine bi_geq_t (by omega) ?_ | refine bi_geq_f (by omega) ?_ | refine bi_xt0 ?_ | refine bi_xt1 ?_ | refine bi_xt2 ?_ | refine bi_xt3 ?_ | refine bi_T ?_ | refine bi_F ?_ | refine bi_not ?_ | refine bi_and ?_ | refine bi_or ?_ | refine bi_xor ?_ | refine bi_shr (by omega) (by decide) ?_ | refine bi_shl (by omega) (by decide) ?_ | refine bi_quo64 (by omega) ?_ | refine bi_rem64 (by omega) ?_ | refine bi_mul64 (by omega) ?_ | refine bi_neg ?_ | refine bi_un_xor32 ?_ | refine bi_add ?_ | refine bi_sub ?_ | refine bi_mul ?_ | refine bi_quo (by decide) ?_ | refine bi_rem (by decide) ?_)
  refine (empty15 r w4).mono ?_
  rintro _ w5 ⟨rfl, h5⟩
  have hb5 := below_then hb4 h5
  have hR5 := hR4.below' h5
  by_cases hre : emptyR r
  · rw [decide_eq_true hre]
    (repeat with_reducible first | refine nck ?_ | refine cdT ?_ | refine cdF ?_ | refine gdY ?_ | refine gdFT ?_ | refine gdTF ?_ | refine gdU ?_ | refine gaY ?_ | refine gaFT ?_ | refine gaTF ?_ | refine pickT ?_ | refine pickF ?_ | refine bi_lss_t (by omega) ?_ | refine bi_lss_f (by omega) ?_ | refine bi_add64 (by omega) ?_ | refine bi_sub64 (by omega) ?_ | refine bi_eql_t (by omega) ?_ | refine bi_eql_f (by omega) ?_ | refine bi_neq_t (by omega) ?_ | refine bi_neq_f (by omega) ?_ | refine bi_gtr_t (by omega) ?_ | refine bi_gtr_f (by omega) ?_ | refine bi_leq_t (by omega) ?_ | refine bi_leq_f (by omega) ?_ | refine bi_geq_t (by omega) ?_ | refine bi_geq_f (by omega) ?_ | refine bi_xt0 ?_ | refine bi_xt1 ?_ | refine bi_xt2 ?_ | refine bi_xt3 ?_ | refine bi_T ?_ | refine bi_F ?_ | refine bi_not ?_ | refine bi_and ?_ | refine bi_or ?_ | refine bi_xor ?_ | refine bi_shr (by omega) (by decide) ?_ | refine bi_shl (by omega) (by decide) ?_ | refine bi_quo64 (by omega) ?_ | refine bi_rem64 (by omega) ?_ | refine bi_mul64 (by omega) ?_ | refine bi_neg ?_ | refine bi_un_xor32 ?_ | refine bi_add ?_ | refine bi_sub ?_ | refine bi_mul ?_ | refine bi_quo (by decide) ?_ | refine bi_rem (by decide) ?_)
    exact ⟨rfl, hb5⟩
  rw [decide_eq_false hre]
  (repeat with_reducible first | refine nck ?_ | refine cdT ?_ | refine cdF ?_ | refine gdY ?_ | refine gdFT ?_ | refine gdTF ?_ | refine gdU ?_ | refine gaY ?_ | refine gaFT ?_ | refine gaTF ?_ | refine pickT ?_ | refine pickF ?_ | refine bi_lss_t (by omega) ?_ | refine bi_lss_f (by omega) ?_ | refine bi_add64 (by omega) ?_ | refine bi_sub64 (by omega) ?_ | refine bi_eql_t (by omega) ?_ | refine bi_eql_f (by omega) ?_ | refine bi_neq_t (by omega) ?_ | refine bi_neq_f (by omega) ?_ | refine bi_gtr_t (by omega) ?_ | refine bi_gtr_f (by omega) ?_ | refine bi_leq_t (by omega) ?_ | refine bi_leq_f (by omega) ?_ | refine bi_geq_t (by omega) ?_ | refine bi_geq_f (by omega) ?_ | refine bi_xt0 ?_ | refine bi_xt1 ?_ | refine bi_xt2 ?_ | refine bi_xt3 ?_ | refine bi_T ?_ | refine bi_F ?_ | refine bi_not ?_ | refine bi_and ?_ | refine bi_or ?_ | refine bi_xor ?_ | refine bi_shr (by omega) (by decide) ?_ | refine bi_shl (by omega) (by decide) ?_ | refine bi_quo64 (by omega) ?_ | refine bi_rem64 (by omega) ?_ | refine bi_mul64 (by omega) ?_ | refine bi_neg ?_ | refine bi_un_xor32 ?_ | refine bi_add ?_ | refine bi_sub ?_ | refine bi_mul ?_ | refine bi_quo (by decide) ?_ | refine bi_rem (by decide) ?_)
  refine (New27 1 (by decide) (fun _ => 0) lease w5).mono ?_
  rintro _ w6 ⟨g1, c6, rfl, hc6, hS6, h6⟩
  rw [show max lease 1 = lease by omega] at hS6
  have hb6 := below_then hb5 h6
  refine ofPR (pr_pnil und41) ?_
  simp only [Option.isNone_some]
  (repeat with_reducible first | refine nck ?_ | refine cdT ?_ | refine cdF ?_ | refine gdY ?_ | refine gdFT ?_ | refine gdTF ?_ | refine gdU ?_ | refine gaY ?_ | refine gaFT ?_ | refine gaTF ?_ | refine pickT ?_ | refine pickF ?_ | refine bi_lss_t (by omega) ?_ | refine bi_lss_f (by omega) ?_ | refine bi_add64 (by omega) ?_ | refine bi_sub64 (by omega) ?_ | refine bi_eql_t (by omega) ?_ | refine bi_eql_f (by omega) ?_ | refine bi_neq_t (by omega) ?_ | refine bi_neq_f (by omega) ?_ | refine bi_gtr_t (by omega) ?_ | refine bi_gtr_f (by omega) ?_ | refine bi_leq_t (by omega) ?_ | refine bi_leq_f (by omega) ?_ | refine bi_geq_t (by omega) ?_ | refine bi_geq_f (by omega) ?_ | refine bi_xt0 ?_ | refine bi_xt1 ?_ | refine bi_xt2 ?_ | refine bi_xt3 ?_ | refine bi_T ?_ | refine bi_F ?_ | refine bi_not ?_ | refine bi_and ?_ | refine bi_or ?_ | refine bi_xor ?_ | refine bi_shr (by omega) (by decide) ?_ | refine bi_shl (by omega) (by decide) ?_ | refine bi_quo64 (by omega) ?_ | refine bi_rem64 (by omega) ?_ | refine bi_mul64 (by omega) ?_ | refine bi_neg ?_ | refine bi_un_xor32 ?_ | refine bi_add ?_ | refine bi_sub ?_ | refine bi_mul ?_ | refine bi_quo (by decide) ?_ | refine bi_rem (by decide) ?_)
  refine ldA agg23 (hR5.below' h6) (szR r) ?_
  (repeat with_reducible first | refine nck ?_ | refine cdT ?_ | refine cdF ?_ | refine gdY ?_ | refine gdFT ?_ | refine gdTF ?_ | refine gdU ?_ | refine gaY ?_ | refine gaFT ?_ | refine gaTF ?_ | refine pickT ?_ | refine pickF ?_ | refine bi_lss_t (by omega) ?_ | refine bi_lss_f (by omega) ?_ | refine bi_add64 (by omega) ?_ | refine bi_sub64 (by omega) ?_ | refine bi_eql_t (by omega) ?_ | refine bi_eql_f (by omega) ?_ | refine bi_neq_t (by omega) ?_ | refine bi_neq_f (by omega) ?_ | refine bi_gtr_t (by omega) ?_ | refine bi_gtr_f (by omega) ?_ | refine bi_leq_t (by omega) ?_ | refine bi_leq_f (by omega) ?_ | refine bi_geq_t (by omega) ?_ | refine bi_geq_f (by omega) ?_ | refine bi_xt0 ?_ | refine bi_xt1 ?_ | refine bi_xt2 ?_ | refine bi_xt3 ?_ | refine bi_T ?_ | refine bi_F ?_ | refine bi_not ?_ | refine bi_and ?_ | refine bi_or ?_ | refine bi_xor ?_ | refine bi_shr (by omega) (by decide) ?_ | refine bi_shl (by omega) (by decide) ?_ | refine bi_quo64 (by omega) ?_ | refine bi_rem64 (by omega) ?_ | refine bi_mul64 (by omega) ?_ | refine bi_neg ?_ | refine bi_un_xor32 ?_ | refine bi_add ?_ | refine bi_sub ?_ | refine bi_mul ?_ | refine bi_quo (by decide) ?_ | refine bi_rem (by decide) ?_)
  have ok0 := ok_nil lease
  refine (Take28 id r hid hS6 (ok0.mono (by omega)) (by omega)).mono ?_
  rintro _ w7 ⟨rfl, hL⟩
  have ht : takeE id r = 0 := by unfold takeE; rw [if_neg (fun e => e.elim (fun e => hid1 e) hre)]
  rw [ht]
  have hlow6 : ∀ k, k < w5.heap.size → c6 k = 0 := fun k hk => hc6 k hk
  obtain ⟨c7, hlow7, hS7, h7⟩ := hL.keep (by decide) h6 hlow6
  have ok1 := ok_take ok0 (by omega) id r
  have hh0 : heldI lease id r (takeV lease (fun _ => none) id r) 0 := by
    unfold heldI takeV
    rw [if_neg (fun e => e.elim (fun e => hid1 e) hre), if_pos (by omega)]
    simp only [if_pos]
    show some (lst ([] ++ [r]), lease) = _
    rw [List.nil_append, Int.sub_zero, if_pos (by omega)]
  generalize takeV lease (fun _ => none) id r = V0 at *
  have hv5 := keeps_AcR _ _ _ _ hb5 hv
  (repeat with_reducible first | refine nck ?_ | refine cdT ?_ | refine cdF ?_ | refine gdY ?_ | refine gdFT ?_ | refine gdTF ?_ | refine gdU ?_ | refine gaY ?_ | refine gaFT ?_ | refine gaTF ?_ | refine pickT ?_ | refine pickF ?_ | refine bi_lss_t (by omega) ?_ | refine bi_lss_f (by omega) ?_ | refine bi_add64 (by omega) ?_ | refine bi_sub64 (by omega) ?_ | refine bi_eql_t (by omega) ?_ | refine bi_eql_f (by omega) ?_ | refine bi_neq_t (by omega) ?_ | refine bi_neq_f (by omega) ?_ | refine bi_gtr_t (by omega) ?_ | refine bi_gtr_f (by omega) ?_ | refine bi_leq_t (by omega) ?_ | refine bi_leq_f (by omega) ?_ | refine bi_geq_t (by omega) ?_ | refine bi_geq_f (by omega) ?_ | refine bi_xt0 ?_ | refine bi_xt1 ?_ | refine bi_xt2 ?_ | refine bi_xt3 ?_ | refine bi_T ?_ | refine bi_F ?_ | refine bi_not ?_ | refine bi_and ?_ | refine bi_or ?_ | refine bi_xor ?_ | refine bi_shr (by omega) (by decide) ?_ | refine bi_shl (by omega) (by decide) ?_ | refine bi_quo64 (by omega) ?_ | refine bi_rem64 (by omega) ?_ | refine bi_mul64 (by omega) ?_ | refine bi_neg ?_ | refine bi_un_xor32 ?_ | refine bi_add ?_ | refine bi_sub ?_ | refine bi_mul ?_ | refine bi_quo (by decide) ?_ | refine bi_rem (by decide) ?_)
  refine LoopP.inv2 (fun tv iv w' => ∃ (k : Nat) (t : Int) (c : Nat → Nat) (V : LkV), k ≤ l.length ∧ iv = .int .i64 k ∧ tv = .int .i64 t ∧ 0 ≤ t ∧ t ≤ lease ∧ (∀ j, j < w5.heap.size → c j = 0) ∧ LkS 1 c w' g1 lease (k + 1) V ∧ LkOk (k + 1) lease V ∧ heldI lease id r V t ∧ Below w5.heap.size w5 w') (fun _ iv _ => l.length - (intOf iv).toNat) ⟨0, 0, c7, V0, Nat.zero_le _, rfl, rfl, by omega, by omega, hlow7, hS7, ok1, hh0, h7⟩ ?_
  clear hh0 ok1 hS7 hlow7 h7 hlow6 hL hS6 hc6 ok0 hb6 h6
  rintro _ _ w7 ⟨k, t, c, V, hk, rfl, rfl, ht0, ht1, hlow, hS, hok, hh, hb7⟩ J hJ
  dsimp only [List.headD_cons, List.tail_cons]
  refine ln und39 ?_
  refine bi_lss_c (fun hlt => ?a) (fun hlt => ?b)
  case' a =>
    (repeat with_reducible first | refine nck ?_ | refine cdT ?_ | refine cdF ?_ | refine gdY ?_ | refine gdFT ?_ | refine gdTF ?_ | refine gdU ?_ | refine gaY ?_ | refine gaFT ?_ | refine gaTF ?_ | refine pickT ?_ | refine pickF ?_ | refine bi_lss_t (by omega) ?_ | refine bi_lss_f (by omega) ?_ | refine bi_add64 (by omega) ?_ | refine bi_sub64 (by omega) ?_ | refine bi_eql_t (by omega) ?_ | refine bi_eql_f (by omega) ?_ | refine bi_neq_t (by omega) ?_ | refine bi_neq_f (by omega) ?_ | refine bi_gtr_t (by omega) ?_ | refine bi_gtr_f (by omega) ?_ | refine bi_leq_t (by omega) ?_ | refine bi_leq_f (by omega) ?_ | refine bi_geq_t (by omega) ?_ | refine bi_geq_f (by omega) ?_ | refine bi_xt0 ?_ | refine bi_xt1 ?_ | refine bi_xt2 ?_ | refine bi_xt3 ?_ | refine bi_T ?_ | refine bi_F ?_ | refine bi_not ?_ | refine bi_and ?_ | refine bi_or ?_ | refine bi_xor ?_ | refine bi_shr (by omega) (by decide) ?_ | refine bi_shl (by omega) (by decide) ?_ | refine bi_quo64 (by omega) ?_ | refine bi_rem64 (by omega) ?_ | refine bi_mul64 (by omega) ?_ | refine bi_neg ?_ | refine bi_un_xor32 ?_ | refine bi_add ?_ | refine bi_sub ?_ | refine bi_mul ?_ | refine bi_quo (by decide) ?_ | refine bi_rem (by decide) ?_)
    refine bi_lss_c (fun hlt2 => ?a1) (fun hlt2 => ?a2)
  case a1 =>
    have hk' : k < l.length := by omega
    obtain ⟨a, us, ha, hus, hcell, hr⟩ := rRow.at hv5 k hk'
    subst ha
    subst hr
    have kc := keepC (w := w5) hcell
    have kl0 : ∀ w', Below w5.heap.size w5 w' → w'.cell? ((a.add (k * 4)).add 0) = some (.int .i64 l[k].kind) := fun w' h => kc w' h 0 _ rfl
    have kl1 : ∀ w', Below w5.heap.size w5 w' → w'.cell? ((a.add (k * 4)).add 1) = some (.int .i64 l[k].id) := fun w' h => kc w' h 1 _ rfl
    have kR : ∀ w', Below w5.heap.size w5 w' → Blk w' gR 23 (rgA r) := fun w' h => hR5.below' h
    have hN : LkOk 500 lease V := hok.mono (by omega)
    (repeat with_reducible first | refine nck ?_ | refine cdT ?_ | refine cdF ?_ | refine gdY ?_ | refine gdFT ?_ | refine gdTF ?_ | refine gdU ?_ | refine gaY ?_ | refine gaFT ?_ | refine gaTF ?_ | refine pickT ?_ | refine pickF ?_ | refine bi_lss_t (by omega) ?_ | refine bi_lss_f (by omega) ?_ | refine bi_add64 (by omega) ?_ | refine bi_sub64 (by omega) ?_ | refine bi_eql_t (by omega) ?_ | refine bi_eql_f (by omega) ?_ | refine bi_neq_t (by omega) ?_ | refine bi_neq_f (by omega) ?_ | refine bi_gtr_t (by omega) ?_ | refine bi_gtr_f (by omega) ?_ | refine bi_leq_t (by omega) ?_ | refine bi_leq_f (by omega) ?_ | refine bi_geq_t (by omega) ?_ | refine bi_geq_f (by omega) ?_ | refine bi_xt0 ?_ | refine bi_xt1 ?_ | refine bi_xt2 ?_ | refine bi_xt3 ?_ | refine bi_T ?_ | refine bi_F ?_ | refine bi_not ?_ | refine bi_and ?_ | refine bi_or ?_ | refine bi_xor ?_ | refine bi_shr (by omega) (by decide) ?_ | refine bi_shl (by omega) (by decide) ?_ | refine bi_quo64 (by omega) ?_ | refine bi_rem64 (by omega) ?_ | refine bi_mul64 (by omega) ?_ | refine bi_neg ?_ | refine bi_un_xor32 ?_ | refine bi_add ?_ | refine bi_sub ?_ | refine bi_mul ?_ | refine bi_quo (by decide) ?_ | refine bi_rem (by decide) ?_)
    refine JoinP.cut (fun xs w' => ∃ (t' : Int) (c' : Nat → Nat) (V' : LkV), xs = [.int .i64 t'] ∧ 0 ≤ t' ∧ t' ≤ lease ∧ (∀ j, j < w5.heap.size → c' j = 0) ∧ LkS 1 c' w' g1 lease (k + 2) V' ∧ LkOk (k + 2) lease V' ∧ heldI lease id r V' t' ∧ Below w5.heap.size w5 w') (fun J2 hJ2 => ?_) (fun xs w' hI => ?_)
    · have stay : J2 [.int .i64 t] w7 := hJ2 _ _ ⟨t, c, V, rfl, ht0, ht1, hlow, hS.mono (by omega), hok.mono (by omega), hh, hb7⟩
      (repeat with_reducible first | refine ixN und39 sz46 k hk' ?_ | refine fdA a0 (by decide) ?_ | refine ld one3' (kl0 _ hb7) ?_ | refine nck ?_ | refine cdT ?_ | refine cdF ?_ | refine gdY ?_ | refine gdFT ?_ | refine gdTF ?_ | refine gdU ?_ | refine gaY ?_ | refine gaFT ?_ | refine gaTF ?_ | refine pickT ?_ | refine pickF ?_ | refine bi_lss_t (by omega) ?_ | refine bi_lss_f (by omega) ?_ | refine bi_add64 (by omega) ?_ | refine bi_sub64 (by omega) ?_ | refine bi_eql_t (by omega) ?_ | refine bi_eql_f (by omega) ?_ | refine bi_neq_t (by omega) ?_ | refine bi_neq_f (by omega) ?_ | refine bi_gtr_t (by omega) ?_ | refine bi_gtr_f (by omega) ?_ | refine bi_leq_t (by omega) ?_ | refine bi_leq_f (by omega) ?_ | refine bi_geq_t (by omega) ?_ | refine bi_geq_f (by omega) ?_ | refine bi_xt0 ?_ | refine bi_xt1 ?_ | refine bi_xt2 ?_ | refine bi_xt3 ?_ | refine bi_T ?_ | refine bi_F ?_ | refine bi_not ?_ | refine bi_and ?_ | refine bi_or ?_ | refine bi_xor ?_ | refine bi_shr (by omega) (by decide) ?_ | refine bi_shl (by omega) (by decide) ?_ | refine bi_quo64 (by omega) ?_ | refine bi_rem64 (by omega) ?_ | refine bi_mul64 (by omega) ?_ | refine bi_neg ?_ | refine bi_un_xor32 ?_ | refine bi_add ?_ | refine bi_sub ?_ | refine bi_mul ?_ | refine bi_quo (by decide) ?_ | refine bi_rem (by decide) ?_)
      refine bi_eql_c (fun h5k => ?_) (fun h5k => ?_)
      · (repeat with_reducible first | refine nck ?_ | refine cdT ?_ | refine cdF ?_ | refine gdY ?_ | refine gdFT ?_ | refine gdTF ?_ | refine gdU ?_ | refine gaY ?_ | refine gaFT ?_ | refine gaTF ?_ | refine pickT ?_ | refine pickF ?_ | refine bi_lss_t (by omega) ?_ | refine bi_lss_f (by omega) ?_ | refine bi_add64 (by omega) ?_ | refine bi_sub64 (by omega) ?_ | refine bi_eql_t (by omega) ?_ | refine bi_eql_f (by omega) ?_ | refine bi_neq_t (by omega) ?_ | refine bi_neq_f (by omega) ?_ | refine bi_gtr_t (by omega) ?_ | refine bi_gtr_f (by omega) ?_ | refine bi_leq_t (by omega) ?_ | refine bi_leq_f (by omega) ?_ | refine bi_geq_t (by omega) ?_ | refine bi_geq_f (by omega) ?_ | refine bi_xt0 ?_ | refine bi_xt1 ?_ | refine bi_xt2 ?_ | refine bi_xt3 ?_ | refine bi_T ?_ | refine bi_F ?_ | refine bi_not ?_ | refine bi_and ?_ | refine bi_or ?_ | refine bi_xor ?_ | refine bi_shr (by omega) (by decide) ?_ | refine bi_shl (by omega) (by decide) ?_ | refine bi_quo64 (by omega) ?_ | refine bi_rem64 (by omega) ?_ | refine bi_mul64 (by omega) ?_ | refine bi_neg ?_ | refine bi_un_xor32 ?_ | refine bi_add ?_ | refine bi_sub ?_ | refine bi_mul ?_ | refine bi_quo (by decide) ?_ | refine bi_rem (by decide) ?_)
        exact stay
      (repeat with_reducible first | refine ixN und39 sz46 k hk' ?_ | refine fdA a0 (by decide) ?_ | refine ld one3' (kl0 _ hb7) ?_ | refine nck ?_ | refine cdT ?_ | refine cdF ?_ | refine gdY ?_ | refine gdFT ?_ | refine gdTF ?_ | refine gdU ?_ | refine gaY ?_ | refine gaFT ?_ | refine gaTF ?_ | refine pickT ?_ | refine pickF ?_ | refine bi_lss_t (by omega) ?_ | refine bi_lss_f (by omega) ?_ | refine bi_add64 (by omega) ?_ | refine bi_sub64 (by omega) ?_ | refine bi_eql_t (by omega) ?_ | refine bi_eql_f (by omega) ?_ | refine bi_neq_t (by omega) ?_ | refine bi_neq_f (by omega) ?_ | refine bi_gtr_t (by omega) ?_ | refine bi_gtr_f (by omega) ?_ | refine bi_leq_t (by omega) ?_ | refine bi_leq_f (by omega) ?_ | refine bi_geq_t (by omega) ?_ | refine bi_geq_f (by omega) ?_ | refine bi_xt0 ?_ | refine bi_xt1 ?_ | refine bi_xt2 ?_ | refine bi_xt3 ?_ | refine bi_T ?_ | refine bi_F ?_ | refine bi_not ?_ | refine bi_and ?_ | refine bi_or ?_ | refine bi_xor ?_ | refine bi_shr (by omega) (by decide) ?_ | refine bi_shl (by omega) (by decide) ?_ | refine bi_quo64 (by omega) ?_ | refine bi_rem64 (by omega) ?_ | refine bi_mul64 (by omega) ?_ | refine bi_neg ?_ | refine bi_un_xor32 ?_ | refine bi_add ?_ | refine bi_sub ?_ | refine bi_mul ?_ | refine bi_quo (by decide) ?_ | refine bi_rem (by decide) ?_)
      refine bi_geq_c (fun h1k => ?p1) (fun h1k => ?p2)
      case' p1 =>
        (repeat with_reducible first | refine ixN und39 sz46 k hk' ?_ | refine fdA a0 (by decide) ?_ | refine ld one3' (kl0 _ hb7) ?_ | refine nck ?_ | refine cdT ?_ | refine cdF ?_ | refine gdY ?_ | refine gdFT ?_ | refine gdTF ?_ | refine gdU ?_ | refine gaY ?_ | refine gaFT ?_ | refine gaTF ?_ | refine pickT ?_ | refine pickF ?_ | refine bi_lss_t (by omega) ?_ | refine bi_lss_f (by omega) ?_ | refine bi_add64 (by omega) ?_ | refine bi_sub64 (by omega) ?_ | refine bi_eql_t (by omega) ?_ | refine bi_eql_f (by omega) ?_ | refine bi_neq_t (by omega) ?_ | refine bi_neq_f (by omega) ?_ | refine bi_gtr_t (by omega) ?_ | refine bi_gtr_f (by omega) ?_ | refine bi_leq_t (by omega) ?_ | refine bi_leq_f (by omega) ?_ | refine bi_geq_t (by omega) ?_ | refine bi_geq_f (by omega) ?_ | refine bi_xt0 ?_ | refine bi_xt1 ?_ | refine bi_xt2 ?_ | refine bi_xt3 ?_ | refine bi_T ?_ | refine bi_F ?_ | refine bi_not ?_ | refine bi_and ?_ | refine bi_or ?_ | refine bi_xor ?_ | refine bi_shr (by omega) (by decide) ?_ | refine bi_shl (by omega) (by decide) ?_ | refine bi_quo64 (by omega) ?_ | refine bi_rem64 (by omega) ?_ | refine bi_mul64 (by omega) ?_ | refine bi_neg ?_ | refine bi_un_xor32 ?_ | refine bi_add ?_ | refine bi_sub ?_ | refine bi_mul ?_ | refine bi_quo (by decide) ?_ | refine bi_rem (by decide) ?_)
        refine bi_leq_c (fun h2k => ?q1) (fun h2k => ?q2)
      case' q1 =>
        (repeat with_reducible first | refine ixN und39 sz46 k hk' ?_ | refine fdA a1 (by decide) ?_ | refine ld one3' (kl1 _ hb7) ?_ | refine nck ?_ | refine cdT ?_ | refine cdF ?_ | refine gdY ?_ | refine gdFT ?_ | refine gdTF ?_ | refine gdU ?_ | refine gaY ?_ | refine gaFT ?_ | refine gaTF ?_ | refine pickT ?_ | refine pickF ?_ | refine bi_lss_t (by omega) ?_ | refine bi_lss_f (by omega) ?_ | refine bi_add64 (by omega) ?_ | refine bi_sub64 (by omega) ?_ | refine bi_eql_t (by omega) ?_ | refine bi_eql_f (by omega) ?_ | refine bi_neq_t (by omega) ?_ | refine bi_neq_f (by omega) ?_ | refine bi_gtr_t (by omega) ?_ | refine bi_gtr_f (by omega) ?_ | refine bi_leq_t (by omega) ?_ | refine bi_leq_f (by omega) ?_ | refine bi_geq_t (by omega) ?_ | refine bi_geq_f (by omega) ?_ | refine bi_xt0 ?_ | refine bi_xt1 ?_ | refine bi_xt2 ?_ | refine bi_xt3 ?_ | refine bi_T ?_ | refine bi_F ?_ | refine bi_not ?_ | refine bi_and ?_ | refine bi_or ?_ | refine bi_xor ?_ | refine bi_shr (by omega) (by decide) ?_ | refine bi_shl (by omega) (by decide) ?_ | refine bi_quo64 (by omega) ?_ | refine bi_rem64 (by omega) ?_ | refine bi_mul64 (by omega) ?_ | refine bi_neg ?_ | refine bi_un_xor32 ?_ | refine bi_add ?_ | refine bi_sub ?_ | refine bi_mul ?_ | refine bi_quo (by decide) ?_ | refine bi_rem (by decide) ?_)
        refine bi_eql_c (fun h3k => ?r1) (fun h3k => ?r2)
      case r1 =>
        (repeat with_reducible first | refine nck ?_ | refine cdT ?_ | refine cdF ?_ | refine gdY ?_ | refine gdFT ?_ | refine gdTF ?_ | refine gdU ?_ | refine gaY ?_ | refine gaFT ?_ | refine gaTF ?_ | refine pickT ?_ | refine pickF ?_ | refine bi_lss_t (by omega) ?_ | refine bi_lss_f (by omega) ?_ | refine bi_add64 (by omega) ?_ | refine bi_sub64 (by omega) ?_ | refine bi_eql_t (by omega) ?_ | refine bi_eql_f (by omega) ?_ | refine bi_neq_t (by omega) ?_ | refine bi_neq_f (by omega) ?_ | refine bi_gtr_t (by omega) ?_ | refine bi_gtr_f (by omega) ?_ | refine bi_leq_t (by omega) ?_ | refine bi_leq_f (by omega) ?_ | refine bi_geq_t (by omega) ?_ | refine bi_geq_f (by omega) ?_ | refine bi_xt0 ?_ | refine bi_xt1 ?_ | refine bi_xt2 ?_ | refine bi_xt3 ?_ | refine bi_T ?_ | refine bi_F ?_ | refine bi_not ?_ | refine bi_and ?_ | refine bi_or ?_ | refine bi_xor ?_ | refine bi_shr (by omega) (by decide) ?_ | refine bi_shl (by omega) (by decide) ?_ | refine bi_quo64 (by omega) ?_ | refine bi_rem64 (by omega) ?_ | refine bi_mul64 (by omega) ?_ | refine bi_neg ?_ | refine bi_un_xor32 ?_ | refine bi_add ?_ | refine bi_sub ?_ | refine bi_mul ?_ | refine bi_quo (by decide) ?_ | refine bi_rem (by decide) ?_)
        exact stay
      all_goals
        have hne : ¬ ((1 ≤ l[k].kind ∧ l[k].kind ≤ 3) ∧ l[k].id = id) := by omega
        (repeat with_reducible first | refine nck ?_ | refine cdT ?_ | refine cdF ?_ | refine gdY ?_ | refine gdFT ?_ | refine gdTF ?_ | refine gdU ?_ | refine gaY ?_ | refine gaFT ?_ | refine gaTF ?_ | refine pickT ?_ | refine pickF ?_ | refine bi_lss_t (by omega) ?_ | refine bi_lss_f (by omega) ?_ | refine bi_add64 (by omega) ?_ | refine bi_sub64 (by omega) ?_ | refine bi_eql_t (by omega) ?_ | refine bi_eql_f (by omega) ?_ | refine bi_neq_t (by omega) ?_ | refine bi_neq_f (by omega) ?_ | refine bi_gtr_t (by omega) ?_ | refine bi_gtr_f (by omega) ?_ | refine bi_leq_t (by omega) ?_ | refine bi_leq_f (by omega) ?_ | refine bi_geq_t (by omega) ?_ | refine bi_geq_f (by omega) ?_ | refine bi_xt0 ?_ | refine bi_xt1 ?_ | refine bi_xt2 ?_ | refine bi_xt3 ?_ | refine bi_T ?_ | refine bi_F ?_ | refine bi_not ?_ | refine bi_and ?_ | refine bi_or ?_ | refine bi_xor ?_ | refine bi_shr (by omega) (by decide) ?_ | refine bi_shl (by omega) (by decide) ?_ | refine bi_quo64 (by omega) ?_ | refine bi_rem64 (by omega) ?_ | refine bi_mul64 (by omega) ?_ | refine bi_neg ?_ | refine bi_un_xor32 ?_ | refine bi_add ?_ | refine bi_sub ?_ | refine bi_mul ?_ | refine bi_quo (by decide) ?_ | refine bi_rem (by decide) ?_)
        refine ldA agg23 (kR _ hb7) (szR r) ?_
        refine (Holds29 id r hS hN).mono ?_
        rintro _ w8 ⟨b1, rfl, hq1, h8⟩
        have : b1 = true := hq1.2 (held_holds hh hlt2)
        subst this
        have hb8 := below_then hb7 h8
        have hS8 := hS.below h8
        (repeat with_reducible first | refine nck ?_ | refine cdT ?_ | refine cdF ?_ | refine gdY ?_ | refine gdFT ?_ | refine gdTF ?_ | refine gdU ?_ | refine gaY ?_ | refine gaFT ?_ | refine gaTF ?_ | refine pickT ?_ | refine pickF ?_ | refine bi_lss_t (by omega) ?_ | refine bi_lss_f (by omega) ?_ | refine bi_add64 (by omega) ?_ | refine bi_sub64 (by omega) ?_ | refine bi_eql_t (by omega) ?_ | refine bi_eql_f (by omega) ?_ | refine bi_neq_t (by omega) ?_ | refine bi_neq_f (by omega) ?_ | refine bi_gtr_t (by omega) ?_ | refine bi_gtr_f (by omega) ?_ | refine bi_leq_t (by omega) ?_ | refine bi_leq_f (by omega) ?_ | refine bi_geq_t (by omega) ?_ | refine bi_geq_f (by omega) ?_ | refine bi_xt0 ?_ | refine bi_xt1 ?_ | refine bi_xt2 ?_ | refine bi_xt3 ?_ | refine bi_T ?_ | refine bi_F ?_ | refine bi_not ?_ | refine bi_and ?_ | refine bi_or ?_ | refine bi_xor ?_ | refine bi_shr (by omega) (by decide) ?_ | refine bi_shl (by omega) (by decide) ?_ | refine bi_quo64 (by omega) ?_ | refine bi_rem64 (by omega) ?_ | refine bi_mul64 (by omega) ?_ | refine bi_neg ?_ | refine bi_un_xor32 ?_ | refine bi_add ?_ | refine bi_sub ?_ | refine bi_mul ?_ | refine bi_quo (by decide) ?_ | refine bi_rem (by decide) ?_)
        refine ldA agg23 (kR _ hb8) (szR r) ?_
        (repeat with_reducible first | refine nck ?_ | refine cdT ?_ | refine cdF ?_ | refine gdY ?_ | refine gdFT ?_ | refine gdTF ?_ | refine gdU ?_ | refine gaY ?_ | refine gaFT ?_ | refine gaTF ?_ | refine pickT ?_ | refine pickF ?_ | refine bi_lss_t (by omega) ?_ | refine bi_lss_f (by omega) ?_ | refine bi_add64 (by omega) ?_ | refine bi_sub64 (by omega) ?_ | refine bi_eql_t (by omega) ?_ | refine bi_eql_f (by omega) ?_ | refine bi_neq_t (by omega) ?_ | refine bi_neq_f (by omega) ?_ | refine bi_gtr_t (by omega) ?_ | refine bi_gtr_f (by omega) ?_ | refine bi_leq_t (by omega) ?_ | refine bi_leq_f (by omega) ?_ | refine bi_geq_t (by omega) ?_ | refine bi_geq_f (by omega) ?_ | refine bi_xt0 ?_ | refine bi_xt1 ?_ | refine bi_xt2 ?_ | refine bi_xt3 ?_ | refine bi_T ?_ | refine bi_F ?_ | refine bi_not ?_ | refine bi_and ?_ | refine bi_or ?_ | refine bi_xor ?_ | refine bi_shr (by omega) (by decide) ?_ | refine bi_shl (by omega) (by decide) ?_ | refine bi_quo64 (by omega) ?_ | refine bi_rem64 (by omega) ?_ | refine bi_mul64 (by omega) ?_ | refine bi_neg ?_ | refine bi_un_xor32 ?_ | refine bi_add ?_ | refine bi_sub ?_ | refine bi_mul ?_ | refine bi_quo (by decide) ?_ | refine bi_rem (by decide) ?_)
        refine (has17 r s w8).mono ?_
        rintro _ w9 ⟨rfl, h9⟩
        have hb9 := below_then hb8 h9
        have hS9 := hS8.below h9
        rcases Classical.em (hasR r s) with hhas | hhas
        all_goals
          first
            | (rw [decide_eq_true hhas]
               (repeat with_reducible first | refine nck ?_ | refine cdT ?_ | refine cdF ?_ | refine gdY ?_ | refine gdFT ?_ | refine gdTF ?_ | refine gdU ?_ | refine gaY ?_ | refine gaFT ?_ | refine gaTF ?_ | refine pickT ?_ | refine pickF ?_ | refine bi_lss_t (by omega) ?_ | refine bi_lss_f (by omega) ?_ | refine bi_add64 (by omega) ?_ | refine bi_sub64 (by omega) ?_ | refine bi_eql_t (by omega) ?_ | refine bi_eql_f (by omega) ?_ | refine bi_neq_t (by omega) ?_ | refine bi_neq_f (by omega) ?_ | refine bi_gtr_t (by omega) ?_ | refine bi_gtr_f (by omega) ?_ | refine bi_leq_t (by omega) ?_ | refine bi_leq_f (by omega) ?_ | refine bi_geq_t (by omega) ?_ | refine bi_geq_f (by omega) ?_ | refine bi_xt0 ?_ | refine bi_xt1 ?_ | refine bi_xt2 ?_ | refine bi_xt3 ?_ | refine bi_T ?_ | refine bi_F ?_ | refine bi_not ?_ | refine bi_and ?_ | refine bi_or ?_ | refine bi_xor ?_ | refine bi_shr (by omega) (by decide) ?_ | refine bi_shl (by omega) (by decide) ?_ | refine bi_quo64 (by omega) ?_ | refine bi_rem64 (by omega) ?_ | refine bi_mul64 (by omega) ?_ | refine bi_neg ?_ | refine bi_un_xor32 ?_ | refine bi_add ?_ | refine bi_sub ?_ | refine bi_mul ?_ | refine bi_quo (by decide) ?_ | refine bi_rem (by decide) ?_)
               refine (Blocks30 s hS9).mono ?_
               rintro _ w9 ⟨b2, rfl, hq2, h10⟩
               have : b2 = true := hq2.2 (held_blocks hh hlt2 hhas)
               subst this
               have hb9 := below_then hb9 h10
               have hS9 := hS9.below h10)
            | rw [decide_eq_false hhas]
        all_goals
          (repeat with_reducible first | refine nck ?_ | refine cdT ?_ | refine cdF ?_ | refine gdY ?_ | refine gdFT ?_ | refine gdTF ?_ | refine gdU ?_ | refine gaY ?_ | refine gaFT ?_ | refine gaTF ?_ | refine pickT ?_ | refine pickF ?_ | refine bi_lss_t (by omega) ?_ | refine bi_lss_f (by omega) ?_ | refine bi_add64 (by omega) ?_ | refine bi_sub64 (by omega) ?_ | refine bi_eql_t (by omega) ?_ | refine bi_eql_f (by omega) ?_ | refine bi_neq_t (by omega) ?_ | refine bi_neq_f (by omega) ?_ | refine bi_gtr_t (by omega) ?_ | refine bi_gtr_f (by omega) ?_ | refine bi_leq_t (by omega) ?_ | refine bi_leq_f (by omega) ?_ | refine bi_geq_t (by omega) ?_ | refine bi_geq_f (by omega) ?_ | refine bi_xt0 ?_ | refine bi_xt1 ?_ | refine bi_xt2 ?_ | refine bi_xt3 ?_ | refine bi_T ?_ | refine bi_F ?_ | refine bi_not ?_ | refine bi_and ?_ | refine bi_or ?_ | refine bi_xor ?_ | refine bi_shr (by omega) (by decide) ?_ | refine bi_shl (by omega) (by decide) ?_ | refine bi_quo64 (by omega) ?_ | refine bi_rem64 (by omega) ?_ | refine bi_mul64 (by omega) ?_ | refine bi_neg ?_ | refine bi_un_xor32 ?_ | refine bi_add ?_ | refine bi_sub ?_ | refine bi_mul ?_ | refine bi_quo (by decide) ?_ | refine bi_rem (by decide) ?_)
          have hdr : Below w9.heap.size w9 w9.drew := (Below.refl _ _).drew
          refine draw (Below w5.heap.size w5) (below_then hb9 hdr) ?_
          refine yixA und39 sz46 k hk' ?_
          refine yldR (us := acF l[k]) agg46 kc (by rw [sz46]; rfl) ?_
          refine act ?_
          refine (refNew32 2 (by decide) c 1 w9.drew).mono ?_
          rintro _ wB ⟨g2, cB, rfl, hcB, hRB, hB⟩
          rw [show max (1 : Int) 1 = 1 by decide] at hRB
          have hbB := below_then (below_then hb9 hdr) hB
          refine ⟨_, hbB, fun _ h => h, ?_⟩
          have hBo : Both cB wB g1 g2 lease 1 (k + 1) 0 V (fun _ => none) := ⟨((hS9.below hdr).re hcB).below hB, hRB⟩
          have hlowB : ∀ j, j < w5.heap.size → cB j = 0 := fun j hj => (hcB j (Nat.lt_of_lt_of_le hj (below_then hb9 hdr).size)).trans (hlow j hj)
          refine (do31 l[k] hBo (hok.mono (by omega)) ((ok_nil 1).mono (by omega)) (by omega) (by omega) (hl64 _ (List.getElem_mem hk')) (by omega)).mono ?_
          rintro _ wC ⟨b, rfl, _, hL⟩
          obtain ⟨cC, hlowC, hBC, hbC⟩ := hL.keep hlowB hbB
          have okC := ok_act hok (by omega) l[k]
          by_cases h4 : l[k].kind = 4
          · first
              | (exfalso; omega)
              | (have e : actV lease V l[k] = tickV V := by
                   unfold actV
                   rw [if_neg (by omega), if_neg (by omega), if_neg (by omega), if_pos h4]
                 rw [e] at hBC okC
                 (repeat with_reducible first | refine ixN und39 sz46 k hk' ?_ | refine fdA a0 (by decide) ?_ | refine ld one3' (kl0 _ hbC) ?_ | refine nck ?_ | refine cdT ?_ | refine cdF ?_ | refine gdY ?_ | refine gdFT ?_ | refine gdTF ?_ | refine gdU ?_ | refine gaY ?_ | refine gaFT ?_ | refine gaTF ?_ | refine pickT ?_ | refine pickF ?_ | refine bi_lss_t (by omega) ?_ | refine bi_lss_f (by omega) ?_ | refine bi_add64 (by omega) ?_ | refine bi_sub64 (by omega) ?_ | refine bi_eql_t (by omega) ?_ | refine bi_eql_f (by omega) ?_ | refine bi_neq_t (by omega) ?_ | refine bi_neq_f (by omega) ?_ | refine bi_gtr_t (by omega) ?_ | refine bi_gtr_f (by omega) ?_ | refine bi_leq_t (by omega) ?_ | refine bi_leq_f (by omega) ?_ | refine bi_geq_t (by omega) ?_ | refine bi_geq_f (by omega) ?_ | refine bi_xt0 ?_ | refine bi_xt1 ?_ | refine bi_xt2 ?_ | refine bi_xt3 ?_ | refine bi_T ?_ | refine bi_F ?_ | refine bi_not ?_ | refine bi_and ?_ | refine bi_or ?_ | refine bi_xor ?_ | refine bi_shr (by omega) (by decide) ?_ | refine bi_shl (by omega) (by decide) ?_ | refine bi_quo64 (by omega) ?_ | refine bi_rem64 (by omega) ?_ | refine bi_mul64 (by omega) ?_ | refine bi_neg ?_ | refine bi_un_xor32 ?_ | refine bi_add ?_ | refine bi_sub ?_ | refine bi_mul ?_ | refine bi_quo (by decide) ?_ | refine bi_rem (by decide) ?_)
                 exact hJ2 _ _ ⟨t + 1, cC, _, rfl, by omega, by omega, hlowC, hBC.one, okC, held_tick hh hlt2 hre, hbC⟩)
          · have e : heldI lease id r (actV lease V l[k]) t := by
              unfold heldI
              rw [act_keep h5k h4 hne]
              exact hh
            (repeat with_reducible first | refine ixN und39 sz46 k hk' ?_ | refine fdA a0 (by decide) ?_ | refine ld one3' (kl0 _ hbC) ?_ | refine nck ?_ | refine cdT ?_ | refine cdF ?_ | refine gdY ?_ | refine gdFT ?_ | refine gdTF ?_ | refine gdU ?_ | refine gaY ?_ | refine gaFT ?_ | refine gaTF ?_ | refine pickT ?_ | refine pickF ?_ | refine bi_lss_t (by omega) ?_ | refine bi_lss_f (by omega) ?_ | refine bi_add64 (by omega) ?_ | refine bi_sub64 (by omega) ?_ | refine bi_eql_t (by omega) ?_ | refine bi_eql_f (by omega) ?_ | refine bi_neq_t (by omega) ?_ | refine bi_neq_f (by omega) ?_ | refine bi_gtr_t (by omega) ?_ | refine bi_gtr_f (by omega) ?_ | refine bi_leq_t (by omega) ?_ | refine bi_leq_f (by omega) ?_ | refine bi_geq_t (by omega) ?_ | refine bi_geq_f (by omega) ?_ | refine bi_xt0 ?_ | refine bi_xt1 ?_ | refine bi_xt2 ?_ | refine bi_xt3 ?_ | refine bi_T ?_ | refine bi_F ?_ | refine bi_not ?_ | refine bi_and ?_ | refine bi_or ?_ | refine bi_xor ?_ | refine bi_shr (by omega) (by decide) ?_ | refine bi_shl (by omega) (by decide) ?_ | refine bi_quo64 (by omega) ?_ | refine bi_rem64 (by omega) ?_ | refine bi_mul64 (by omega) ?_ | refine bi_neg ?_ | refine bi_un_xor32 ?_ | refine bi_add ?_ | refine bi_sub ?_ | refine bi_mul ?_ | refine bi_quo (by decide) ?_ | refine bi_rem (by decide) ?_)
            exact hJ2 _ _ ⟨t, cC, _, rfl, ht0, ht1, hlowC, hBC.one, okC, e, hbC⟩
    · obtain ⟨t', c', V', rfl, q1, q2, q3, q4, q5, q6, q7⟩ := hI
      dsimp only [List.headD_cons, List.tail_cons]
      (repeat with_reducible first | refine nck ?_ | refine cdT ?_ | refine cdF ?_ | refine gdY ?_ | refine gdFT ?_ | refine gdTF ?_ | refine gdU ?_ | refine gaY ?_ | refine gaFT ?_ | refine gaTF ?_ | refine pickT ?_ | refine pickF ?_ | refine bi_lss_t (by omega) ?_ | refine bi_lss_f (by omega) ?_ | refine bi_add64 (by omega) ?_ | refine bi_sub64 (by omega) ?_ | refine bi_eql_t (by omega) ?_ | refine bi_eql_f (by omega) ?_ | refine bi_neq_t (by omega) ?_ | refine bi_neq_f (by omega) ?_ | refine bi_gtr_t (by omega) ?_ | refine bi_gtr_f (by omega) ?_ | refine bi_leq_t (by omega) ?_ | refine bi_leq_f (by omega) ?_ | refine bi_geq_t (by omega) ?_ | refine bi_geq_f (by omega) ?_ | refine bi_xt0 ?_ | refine bi_xt1 ?_ | refine bi_xt2 ?_ | refine bi_xt3 ?_ | refine bi_T ?_ | refine bi_F ?_ | refine bi_not ?_ | refine bi_and ?_ | refine bi_or ?_ | refine bi_xor ?_ | refine bi_shr (by omega) (by decide) ?_ | refine bi_shl (by omega) (by decide) ?_ | refine bi_quo64 (by omega) ?_ | refine bi_rem64 (by omega) ?_ | refine bi_mul64 (by omega) ?_ | refine bi_neg ?_ | refine bi_un_xor32 ?_ | refine bi_add ?_ | refine bi_sub ?_ | refine bi_mul ?_ | refine bi_quo (by decide) ?_ | refine bi_rem (by decide) ?_)
      exact hJ _ _ _ ⟨k + 1, t', c', V', by omega, by simp, rfl, q1, q2, q3, q4, q5, q6, q7⟩ (by simp [intOf]; omega)
  all_goals
    (repeat with_reducible first | refine nck ?_ | refine cdT ?_ | refine cdF ?_ | refine gdY ?_ | refine gdFT ?_ | refine gdTF ?_ | refine gdU ?_ | refine gaY ?_ | refine gaFT ?_ | refine gaTF ?_ | refine pickT ?_ | refine pickF ?_ | refine bi_lss_t (by omega) ?_ | refine bi_lss_f (by omega) ?_ | refine bi_add64 (by omega) ?_ | refine bi_sub64 (by omega) ?_ | refine bi_eql_t (by omega) ?_ | refine bi_eql_f (by omega) ?_ | refine bi_neq_t (by omega) ?_ | refine bi_neq_f (by omega) ?_ | refine bi_gtr_t (by omega) ?_ | refine bi_gtr_f (by omega) ?_ | refine bi_leq_t (by omega) ?_ | refine bi_leq_f (by omega) ?_ | refine bi_geq_t (by omega) ?_ | refine bi_geq_f (by omega) ?_ | refine bi_xt0 ?_ | refine bi_xt1 ?_ | refine bi_xt2 ?_ | refine bi_xt3 ?_ | refine bi_T ?_ | refine bi_F ?_ | refine bi_not ?_ | refine bi_and ?_ | refine bi_or ?_ | refine bi_xor ?_ | refine bi_shr (by omega) (by decide) ?_ | refine bi_shl (by omega) (by decide) ?_ | refine bi_quo64 (by omega) ?_ | refine bi_rem64 (by omega) ?_ | refine bi_mul64 (by omega) ?_ | refine bi_neg ?_ | refine bi_un_xor32 ?_ | refine bi_add ?_ | refine bi_sub ?_ | refine bi_mul ?_ | refine bi_quo (by decide) ?_ | refine bi_rem (by decide) ?_)
    refine LoopP.inv1 (fun tv w' => ∃ (t : Int) (c : Nat → Nat) (V : LkV), tv = .int .i64 t ∧ 0 ≤ t ∧ t ≤ lease ∧ (∀ j, j < w5.heap.size → c j = 0) ∧ LkS 1 c w' g1 lease 200 V ∧ LkOk 200 lease V ∧ heldI lease id r V t ∧ Below w5.heap.size w5 w') (fun tv _ => (lease - intOf tv).toNat) ⟨t, c, V, rfl, ht0, ht1, hlow, hS.mono (by omega), hok.mono (by omega), hh, hb7⟩ ?_
    clear hh hS hok hlow hb7 hlt ht0 ht1
    rintro _ w7 ⟨t, c, V, rfl, ht0, ht1, hlow, hS, hok, hh, hb7⟩ J2 hJ2
    dsimp only [List.headD_cons, List.tail_cons]
    have hN : LkOk 500 lease V := hok.mono (by omega)
    refine bi_lss_c (fun hlt => ?_) (fun hlt => ?_)
    · (repeat with_reducible first | refine nck ?_ | refine cdT ?_ | refine cdF ?_ | refine gdY ?_ | refine gdFT ?_ | refine gdTF ?_ | refine gdU ?_ | refine gaY ?_ | refine gaFT ?_ | refine gaTF ?_ | refine pickT ?_ | refine pickF ?_ | refine bi_lss_t (by omega) ?_ | refine bi_lss_f (by omega) ?_ | refine bi_add64 (by omega) ?_ | refine bi_sub64 (by omega) ?_ | refine bi_eql_t (by omega) ?_ | refine bi_eql_f (by omega) ?_ | refine bi_neq_t (by omega) ?_ | refine bi_neq_f (by omega) ?_ | refine bi_gtr_t (by omega) ?_ | refine bi_gtr_f (by omega) ?_ | refine bi_leq_t (by omega) ?_ | refine bi_leq_f (by omega) ?_ | refine bi_geq_t (by omega) ?_ | refine bi_geq_f (by omega) ?_ | refine bi_xt0 ?_ | refine bi_xt1 ?_ | refine bi_xt2 ?_ | refine bi_xt3 ?_ | refine bi_T ?_ | refine bi_F ?_ | refine bi_not ?_ | refine bi_and ?_ | refine bi_or ?_ | refine bi_xor ?_ | refine bi_shr (by omega) (by decide) ?_ | refine bi_shl (by omega) (by decide) ?_ | refine bi_quo64 (by omega) ?_ | refine bi_rem64 (by omega) ?_ | refine bi_mul64 (by omega) ?_ | refine bi_neg ?_ | refine bi_un_xor32 ?_ | refine bi_add ?_ | refine bi_sub ?_ | refine bi_mul ?_ | refine bi_quo (by decide) ?_ | refine bi_rem (by decide) ?_)
      refine ldA agg23 (hR5.below' hb7) (szR r) ?_
      refine (Holds29 id r hS hN).mono ?_
      rintro _ w8 ⟨b1, rfl, hq1, h8⟩
      have : b1 = true := hq1.2 (held_holds hh hlt)
      subst this
      have hb8 := below_then hb7 h8
      (repeat with_reducible first | refine nck ?_ | refine cdT ?_ | refine cdF ?_ | refine gdY ?_ | refine gdFT ?_ | refine gdTF ?_ | refine gdU ?_ | refine gaY ?_ | refine gaFT ?_ | refine gaTF ?_ | refine pickT ?_ | refine pickF ?_ | refine bi_lss_t (by omega) ?_ | refine bi_lss_f (by omega) ?_ | refine bi_add64 (by omega) ?_ | refine bi_sub64 (by omega) ?_ | refine bi_eql_t (by omega) ?_ | refine bi_eql_f (by omega) ?_ | refine bi_neq_t (by omega) ?_ | refine bi_neq_f (by omega) ?_ | refine bi_gtr_t (by omega) ?_ | refine bi_gtr_f (by omega) ?_ | refine bi_leq_t (by omega) ?_ | refine bi_leq_f (by omega) ?_ | refine bi_geq_t (by omega) ?_ | refine bi_geq_f (by omega) ?_ | refine bi_xt0 ?_ | refine bi_xt1 ?_ | refine bi_xt2 ?_ | refine bi_xt3 ?_ | refine bi_T ?_ | refine bi_F ?_ | refine bi_not ?_ | refine bi_and ?_ | refine bi_or ?_ | refine bi_xor ?_ | refine bi_shr (by omega) (by decide) ?_ | refine bi_shl (by omega) (by decide) ?_ | refine bi_quo64 (by omega) ?_ | refine bi_rem64 (by omega) ?_ | refine bi_mul64 (by omega) ?_ | refine bi_neg ?_ | refine bi_un_xor32 ?_ | refine bi_add ?_ | refine bi_sub ?_ | refine bi_mul ?_ | refine bi_quo (by decide) ?_ | refine bi_rem (by decide) ?_)
      refine (Tick33 (hS.below h8) (fun id L left e => by
        obtain ⟨_, _, _, _, q1, q2⟩ := hok id L left e
        omega)).mono ?_
      rintro _ w9 hL
      obtain ⟨c9, hlow9, hS9, hb9⟩ := hL.keep (by decide) hb8 hlow
      (repeat with_reducible first | refine nck ?_ | refine cdT ?_ | refine cdF ?_ | refine gdY ?_ | refine gdFT ?_ | refine gdTF ?_ | refine gdU ?_ | refine gaY ?_ | refine gaFT ?_ | refine gaTF ?_ | refine pickT ?_ | refine pickF ?_ | refine bi_lss_t (by omega) ?_ | refine bi_lss_f (by omega) ?_ | refine bi_add64 (by omega) ?_ | refine bi_sub64 (by omega) ?_ | refine bi_eql_t (by omega) ?_ | refine bi_eql_f (by omega) ?_ | refine bi_neq_t (by omega) ?_ | refine bi_neq_f (by omega) ?_ | refine bi_gtr_t (by omega) ?_ | refine bi_gtr_f (by omega) ?_ | refine bi_leq_t (by omega) ?_ | refine bi_leq_f (by omega) ?_ | refine bi_geq_t (by omega) ?_ | refine bi_geq_f (by omega) ?_ | refine bi_xt0 ?_ | refine bi_xt1 ?_ | refine bi_xt2 ?_ | refine bi_xt3 ?_ | refine bi_T ?_ | refine bi_F ?_ | refine bi_not ?_ | refine bi_and ?_ | refine bi_or ?_ | refine bi_xor ?_ | refine bi_shr (by omega) (by decide) ?_ | refine bi_shl (by omega) (by decide) ?_ | refine bi_quo64 (by omega) ?_ | refine bi_rem64 (by omega) ?_ | refine bi_mul64 (by omega) ?_ | refine bi_neg ?_ | refine bi_un_xor32 ?_ | refine bi_add ?_ | refine bi_sub ?_ | refine bi_mul ?_ | refine bi_quo (by decide) ?_ | refine bi_rem (by decide) ?_)
      exact hJ2 _ _ ⟨t + 1, c9, _, rfl, by omega, by omega, hlow9, hS9, ok_tick hok, held_tick hh hlt hre, hb9⟩ (by simp [intOf]; omega)
    · have : t = lease := by omega
      subst this
      have hno := held_end hh
      (repeat with_reducible first | refine nck ?_ | refine cdT ?_ | refine cdF ?_ | refine gdY ?_ | refine gdFT ?_ | refine gdTF ?_ | refine gdU ?_ | refine gaY ?_ | refine gaFT ?_ | refine gaTF ?_ | refine pickT ?_ | refine pickF ?_ | refine bi_lss_t (by omega) ?_ | refine bi_lss_f (by omega) ?_ | refine bi_add64 (by omega) ?_ | refine bi_sub64 (by omega) ?_ | refine bi_eql_t (by omega) ?_ | refine bi_eql_f (by omega) ?_ | refine bi_neq_t (by omega) ?_ | refine bi_neq_f (by omega) ?_ | refine bi_gtr_t (by omega) ?_ | refine bi_gtr_f (by omega) ?_ | refine bi_leq_t (by omega) ?_ | refine bi_leq_f (by omega) ?_ | refine bi_geq_t (by omega) ?_ | refine bi_geq_f (by omega) ?_ | refine bi_xt0 ?_ | refine bi_xt1 ?_ | refine bi_xt2 ?_ | refine bi_xt3 ?_ | refine bi_T ?_ | refine bi_F ?_ | refine bi_not ?_ | refine bi_and ?_ | refine bi_or ?_ | refine bi_xor ?_ | refine bi_shr (by omega) (by decide) ?_ | refine bi_shl (by omega) (by decide) ?_ | refine bi_quo64 (by omega) ?_ | refine bi_rem64 (by omega) ?_ | refine bi_mul64 (by omega) ?_ | refine bi_neg ?_ | refine bi_un_xor32 ?_ | refine bi_add ?_ | refine bi_sub ?_ | refine bi_mul ?_ | refine bi_quo (by decide) ?_ | refine bi_rem (by decide) ?_)
      refine ldA agg23 (hR5.below' hb7) (szR r) ?_
      refine (Holds29 id r hS hN).mono ?_
      rintro _ w8 ⟨b1, rfl, hq1, h8⟩
      have : b1 = false := by
        cases b1 with
        | false => rfl
        | true =>
          obtain ⟨L, left, e, _⟩ := hq1.1 rfl
          rw [hno] at e
          cases e
      subst this
      have hb8 := below_then hb7 h8
      (repeat with_reducible first | refine nck ?_ | refine cdT ?_ | refine cdF ?_ | refine gdY ?_ | refine gdFT ?_ | refine gdTF ?_ | refine gdU ?_ | refine gaY ?_ | refine gaFT ?_ | refine gaTF ?_ | refine pickT ?_ | refine pickF ?_ | refine bi_lss_t (by omega) ?_ | refine bi_lss_f (by omega) ?_ | refine bi_add64 (by omega) ?_ | refine bi_sub64 (by omega) ?_ | refine bi_eql_t (by omega) ?_ | refine bi_eql_f (by omega) ?_ | refine bi_neq_t (by omega) ?_ | refine bi_neq_f (by omega) ?_ | refine bi_gtr_t (by omega) ?_ | refine bi_gtr_f (by omega) ?_ | refine bi_leq_t (by omega) ?_ | refine bi_leq_f (by omega) ?_ | refine bi_geq_t (by omega) ?_ | refine bi_geq_f (by omega) ?_ | refine bi_xt0 ?_ | refine bi_xt1 ?_ | refine bi_xt2 ?_ | refine bi_xt3 ?_ | refine bi_T ?_ | refine bi_F ?_ | refine bi_not ?_ | refine bi_and ?_ | refine bi_or ?_ | refine bi_xor ?_ | refine bi_shr (by omega) (by decide) ?_ | refine bi_shl (by omega) (by decide) ?_ | refine bi_quo64 (by omega) ?_ | refine bi_rem64 (by omega) ?_ | refine bi_mul64 (by omega) ?_ | refine bi_neg ?_ | refine bi_un_xor32 ?_ | refine bi_add ?_ | refine bi_sub ?_ | refine bi_mul ?_ | refine bi_quo (by decide) ?_ | refine bi_rem (by decide) ?_)
      refine (Free34 id (hS.below h8)).mono ?_
      rintro _ w9 ⟨rfl, hL⟩
      obtain ⟨c9, hlow9, hS9, hb9⟩ := hL.keep (by decide) hb8 hlow
      rw [hno]
      simp only [Option.isSome_none]
      (repeat with_reducible first | refine nck ?_ | refine cdT ?_ | refine cdF ?_ | refine gdY ?_ | refine gdFT ?_ | refine gdTF ?_ | refine gdU ?_ | refine gaY ?_ | refine gaFT ?_ | refine gaTF ?_ | refine pickT ?_ | refine pickF ?_ | refine bi_lss_t (by omega) ?_ | refine bi_lss_f (by omega) ?_ | refine bi_add64 (by omega) ?_ | refine bi_sub64 (by omega) ?_ | refine bi_eql_t (by omega) ?_ | refine bi_eql_f (by omega) ?_ | refine bi_neq_t (by omega) ?_ | refine bi_neq_f (by omega) ?_ | refine bi_gtr_t (by omega) ?_ | refine bi_gtr_f (by omega) ?_ | refine bi_leq_t (by omega) ?_ | refine bi_leq_f (by omega) ?_ | refine bi_geq_t (by omega) ?_ | refine bi_geq_f (by omega) ?_ | refine bi_xt0 ?_ | refine bi_xt1 ?_ | refine bi_xt2 ?_ | refine bi_xt3 ?_ | refine bi_T ?_ | refine bi_F ?_ | refine bi_not ?_ | refine bi_and ?_ | refine bi_or ?_ | refine bi_xor ?_ | refine bi_shr (by omega) (by decide) ?_ | refine bi_shl (by omega) (by decide) ?_ | refine bi_quo64 (by omega) ?_ | refine bi_rem64 (by omega) ?_ | refine bi_mul64 (by omega) ?_ | refine bi_neg ?_ | refine bi_un_xor32 ?_ | refine bi_add ?_ | refine bi_sub ?_ | refine bi_mul ?_ | refine bi_quo (by decide) ?_ | refine bi_rem (by decide) ?_)
      refine (Ranges35 id hS9 (ok_free hN id)).mono ?_
      rintro v10 w10 ⟨ho10, h10⟩
      have e : ((freeV V id id).map (·.1)).getD [] = [] := by unfold freeV; simp
      rw [e] at ho10
      obtain ⟨A10, c10, hv10, _⟩ := ho10.rd.slice
      rw [List.length_nil] at hv10
      subst hv10
      (repeat with_reducible first | refine nck ?_ | refine cdT ?_ | refine cdF ?_ | refine gdY ?_ | refine gdFT ?_ | refine gdTF ?_ | refine gdU ?_ | refine gaY ?_ | refine gaFT ?_ | refine gaTF ?_ | refine pickT ?_ | refine pickF ?_ | refine bi_lss_t (by omega) ?_ | refine bi_lss_f (by omega) ?_ | refine bi_add64 (by omega) ?_ | refine bi_sub64 (by omega) ?_ | refine bi_eql_t (by omega) ?_ | refine bi_eql_f (by omega) ?_ | refine bi_neq_t (by omega) ?_ | refine bi_neq_f (by omega) ?_ | refine bi_gtr_t (by omega) ?_ | refine bi_gtr_f (by omega) ?_ | refine bi_leq_t (by omega) ?_ | refine bi_leq_f (by omega) ?_ | refine bi_geq_t (by omega) ?_ | refine bi_geq_f (by omega) ?_ | refine bi_xt0 ?_ | refine bi_xt1 ?_ | refine bi_xt2 ?_ | refine bi_xt3 ?_ | refine bi_T ?_ | refine bi_F ?_ | refine bi_not ?_ | refine bi_and ?_ | refine bi_or ?_ | refine bi_xor ?_ | refine bi_shr (by omega) (by decide) ?_ | refine bi_shl (by omega) (by decide) ?_ | refine bi_quo64 (by omega) ?_ | refine bi_rem64 (by omega) ?_ | refine bi_mul64 (by omega) ?_ | refine bi_neg ?_ | refine bi_un_xor32 ?_ | refine bi_add ?_ | refine bi_sub ?_ | refine bi_mul ?_ | refine bi_quo (by decide) ?_ | refine bi_rem (by decide) ?_)
      refine ln und26 ?_
      (repeat with_reducible first | refine nck ?_ | refine cdT ?_ | refine cdF ?_ | refine gdY ?_ | refine gdFT ?_ | refine gdTF ?_ | refine gdU ?_ | refine gaY ?_ | refine gaFT ?_ | refine gaTF ?_ | refine pickT ?_ | refine pickF ?_ | refine bi_lss_t (by omega) ?_ | refine bi_lss_f (by omega) ?_ | refine bi_add64 (by omega) ?_ | refine bi_sub64 (by omega) ?_ | refine bi_eql_t (by omega) ?_ | refine bi_eql_f (by omega) ?_ | refine bi_neq_t (by omega) ?_ | refine bi_neq_f (by omega) ?_ | refine bi_gtr_t (by omega) ?_ | refine bi_gtr_f (by omega) ?_ | refine bi_leq_t (by omega) ?_ | refine bi_leq_f (by omega) ?_ | refine bi_geq_t (by omega) ?_ | refine bi_geq_f (by omega) ?_ | refine bi_xt0 ?_ | refine bi_xt1 ?_ | refine bi_xt2 ?_ | refine bi_xt3 ?_ | refine bi_T ?_ | refine bi_F ?_ | refine bi_not ?_ | refine bi_and ?_ | refine bi_or ?_ | refine bi_xor ?_ | refine bi_shr (by omega) (by decide) ?_ | refine bi_shl (by omega) (by decide) ?_ | refine bi_quo64 (by omega) ?_ | refine bi_rem64 (by omega) ?_ | refine bi_mul64 (by omega) ?_ | refine bi_neg ?_ | refine bi_un_xor32 ?_ | refine bi_add ?_ | refine bi_sub ?_ | refine bi_mul ?_ | refine bi_quo (by decide) ?_ | refine bi_rem (by decide) ?_)
      exact ⟨rfl, below_then hb5 (below_then hb9 h10)⟩
end Go.Proofs.Ytcihbjempijhpaa.E
/- LockLoses. -/
namespace Go.Proofs.Ytcihbjempijhpaa.E
open Go Go.RowKit
set_option linter.unusedSimpArgs false
set_option linter.unusedVariables false

theorem blocks_lose {n : Nat} {le : Int} {V : LkV} (h : LkOk n le V) (r : Rg) (s : Txt) : blocksV (loseV V r) s ↔ blocksV V s ∧ ¬ hasR r s := by
  constructor
  · rintro ⟨id, L, left, e, hs⟩
    obtain ⟨p, hp, he⟩ := Option.bind_eq_some_iff.1 e
    obtain ⟨hq, _, _⟩ := sweep_some he
    cases hq
    obtain ⟨h1, h2⟩ := ((mns_spec p.1 r).2 s).1 hs
    exact ⟨⟨id, p.1, p.2, hp, h1⟩, h2⟩
  · rintro ⟨⟨id, L, left, e, hs⟩, hn⟩
    have hm := ((mns_spec L r).2 s).2 ⟨hs, hn⟩
    obtain ⟨_, _, _, _, h5, _⟩ := h id L left e
    refine ⟨id, mns L r, left, ?_, hm⟩
    unfold loseV
    rw [e]
    show sweepF (mns L r, left) = _
    unfold sweepF
    rw [if_neg]
    rintro (e | e)
    · simp only at e
      omega
    · simp only at e
      rw [e] at hm
      exact inL_nil _ hm
theorem lockLoses (lease : Int) (hle0 : lease ≤ 9223372036854775807) (v : Value) (l : List Act3) (hl64 : ∀ a ∈ l, a.id ≤ 9223372036854775807) (r : Rg) (s : Txt) (w : World) (hv : AcR w [v] l) :
    CallP Try.prog 8 #[.int .i64 lease, v, rgV r, tS s] (fun u w' => u = .bool true ∧ Below w.heap.size w w') w := by
  obtain ⟨A, cA, rfl, hcA, hmA⟩ := hv.slice
  refine ⟨S8.calls _ _ _ _ _ _ ?_⟩
  unfold S8
  refine bxB ?_
  intro gR w1 hgR hR1 hb1
  refine (awake25 w1).mono ?_
  rintro _ w2 ⟨rfl, h2⟩
  have hb2 := below_then hb1 h2
  have hR2 := hR1.below' h2
  (repeat with_reducible first | refine nck ?_ | refine cdT ?_ | refine cdF ?_ | refine gdY ?_ | refine gdFT ?_ | refine gdTF ?_ | refine gdU ?_ | refine gaY ?_ | refine gaFT ?_ | refine gaTF ?_ | refine pickT ?_ | refine pickF ?_ | refine bi_lss_t (by omega) ?_ | refine bi_lss_f (by omega) ?_ | refine bi_add64 (by omega) ?_ | refine bi_sub64 (by omega) ?_ | refine bi_eql_t (by omega) ?_ | refine bi_eql_f (by omega) ?_ | refine bi_neq_t (by omega) ?_ | refine bi_neq_f (by omega) ?_ | refine bi_gtr_t (by omega) ?_ | refine bi_gtr_f (by omega) ?_ | refine bi_leq_t (by omega) ?_ | refine bi_leq_f (by omega) ?_ | refine bi_geq_t (by omega) ?_ | refine bi_geq_f (by omega) ?_ | refine bi_xt0 ?_ | refine bi_xt1 ?_ | refine bi_xt2 ?_ | refine bi_xt3 ?_ | refine bi_T ?_ | refine bi_F ?_ | refine bi_not ?_ | refine bi_and ?_ | refine bi_or ?_ | refine bi_xor ?_ | refine bi_shr (by omega) (by decide) ?_ | refine bi_shl (by omega) (by decide) ?_ | refine bi_quo64 (by omega) ?_ | refine bi_rem64 (by omega) ?_ | refine bi_mul64 (by omega) ?_ | refine bi_neg ?_ | refine bi_un_xor32 ?_ | refine bi_add ?_ | refine bi_sub ?_ | refine bi_mul ?_ | refine bi_quo (by decide) ?_ | refine bi_rem (by decide) ?_)
  refine (light26 _ l w2 (keeps_AcR _ _ _ _ hb2 hv)).mono ?_
  rintro _ w3 ⟨z, rfl, hz, h3⟩
  have hb3 := below_then hb2 h3
  have hR3 := hR2.below' h3
  cases z with
  | false =>
    (repeat with_reducible first | refine nck ?_ | refine cdT ?_ | refine cdF ?_ | refine gdY ?_ | refine gdFT ?_ | refine gdTF ?_ | refine gdU ?_ | refine gaY ?_ | refine gaFT ?_ | refine gaTF ?_ | refine pickT ?_ | refine pickF ?_ | refine bi_lss_t (by omega) ?_ | refine bi_lss_f (by omega) ?_ | refine bi_add64 (by omega) ?_ | refine bi_sub64 (by omega) ?_ | refine bi_eql_t (by omega) ?_ | refine bi_eql_f (by omega) ?_ | refine bi_neq_t (by omega) ?_ | refine bi_neq_f (by omega) ?_ | refine bi_gtr_t (by omega) ?_ | refine bi_gtr_f (by omega) ?_ | refine bi_leq_t (by omega) ?_ | refine bi_leq_f (by omega) ?_ | refine bi_geq_t (by omega) ?_ | refine bi_geq_f (by omega) ?_ | refine bi_xt0 ?_ | refine bi_xt1 ?_ | refine bi_xt2 ?_ | refine bi_xt3 ?_ | refine bi_T ?_ | refine bi_F ?_ | refine bi_not ?_ | refine bi_and ?_ | refine bi_or ?_ | refine bi_xor ?_ | refine bi_shr (by omega) (by decide) ?_ | refine bi_shl (by omega) (by decide) ?_ | refine bi_quo64 (by omega) ?_ | refine bi_rem64 (by omega) ?_ | refine bi_mul64 (by omega) ?_ | refine bi_neg ?_ | refine bi_un_xor32 ?_ | refine bi_add ?_ | refine bi_sub ?_ | refine bi_mul ?_ | refine bi_quo (by decide) ?_ | refine bi_rem (by decide) ?_)
    exact ⟨rfl, hb3⟩
  | true =>
  have hl := hz rfl
  (repeat with_reducible first | refine nck ?_ | refine cdT ?_ | refine cdF ?_ | refine gdY ?_ | refine gdFT ?_ | refine gdTF ?_ | refine gdU ?_ | refine gaY ?_ | refine gaFT ?_ | refine gaTF ?_ | refine pickT ?_ | refine pickF ?_ | refine bi_lss_t (by omega) ?_ | refine bi_lss_f (by omega) ?_ | refine bi_add64 (by omega) ?_ | refine bi_sub64 (by omega) ?_ | refine bi_eql_t (by omega) ?_ | refine bi_eql_f (by omega) ?_ | refine bi_neq_t (by omega) ?_ | refine bi_neq_f (by omega) ?_ | refine bi_gtr_t (by omega) ?_ | refine bi_gtr_f (by omega) ?_ | refine bi_leq_t (by omega) ?_ | refine bi_leq_f (by omega) ?_ | refine bi_geq_t (by omega) ?_ | refine bi_geq_f (by omega) ?_ | refine bi_xt0 ?_ | refine bi_xt1 ?_ | refine bi_xt2 ?_ | refine bi_xt3 ?_ | refine bi_T ?_ | refine bi_F ?_ | refine bi_not ?_ | refine bi_and ?_ | refine bi_or ?_ | refine bi_xor ?_ | refine bi_shr (by omega) (by decide) ?_ | refine bi_shl (by omega) (by decide) ?_ | refine bi_quo64 (by omega) ?_ | refine bi_rem64 (by omega) ?_ | refine bi_mul64 (by omega) ?_ | refine bi_neg ?_ | refine bi_un_xor32 ?_ | refine bi_add ?_ | refine bi_sub ?_ | refine bi_mul ?_ | refine bi_quo (by decide) ?_ | refine bi_rem (by decide) ?_)
  refine ldA agg23 hR3 (szR r) ?_
  (repeat with_reducible first | refine nck ?_ | refine cdT ?_ | refine cdF ?_ | refine gdY ?_ | refine gdFT ?_ | refine gdTF ?_ | refine gdU ?_ | refine gaY ?_ | refine gaFT ?_ | refine gaTF ?_ | refine pickT ?_ | refine pickF ?_ | refine bi_lss_t (by omega) ?_ | refine bi_lss_f (by omega) ?_ | refine bi_add64 (by omega) ?_ | refine bi_sub64 (by omega) ?_ | refine bi_eql_t (by omega) ?_ | refine bi_eql_f (by omega) ?_ | refine bi_neq_t (by omega) ?_ | refine bi_neq_f (by omega) ?_ | refine bi_gtr_t (by omega) ?_ | refine bi_gtr_f (by omega) ?_ | refine bi_leq_t (by omega) ?_ | refine bi_leq_f (by omega) ?_ | refine bi_geq_t (by omega) ?_ | refine bi_geq_f (by omega) ?_ | refine bi_xt0 ?_ | refine bi_xt1 ?_ | refine bi_xt2 ?_ | refine bi_xt3 ?_ | refine bi_T ?_ | refine bi_F ?_ | refine bi_not ?_ | refine bi_and ?_ | refine bi_or ?_ | refine bi_xor ?_ | refine bi_shr (by omega) (by decide) ?_ | refine bi_shl (by omega) (by decide) ?_ | refine bi_quo64 (by omega) ?_ | refine bi_rem64 (by omega) ?_ | refine bi_mul64 (by omega) ?_ | refine bi_neg ?_ | refine bi_un_xor32 ?_ | refine bi_add ?_ | refine bi_sub ?_ | refine bi_mul ?_ | refine bi_quo (by decide) ?_ | refine bi_rem (by decide) ?_)
  refine bs1R r ?_
  intro v4 w4 ho4 h4
  have hb4 := below_then hb3 h4
  have hR4 := hR3.below' h4
  (repeat with_reducible first | refine nck ?_ | refine cdT ?_ | refine cdF ?_ | refine gdY ?_ | refine gdFT ?_ | refine gdTF ?_ | refine gdU ?_ | refine gaY ?_ | refine gaFT ?_ | refine gaTF ?_ | refine pickT ?_ | refine pickF ?_ | refine bi_lss_t (by omega) ?_ | refine bi_lss_f (by omega) ?_ | refine bi_add64 (by omega) ?_ | refine bi_sub64 (by omega) ?_ | refine bi_eql_t (by omega) ?_ | refine bi_eql_f (by omega) ?_ | refine bi_neq_t (by omega) ?_ | refine bi_neq_f (by omega) ?_ | refine bi_gtr_t (by omega) ?_ | refine bi_gtr_f (by omega) ?_ | refine bi_leq_t (by omega) ?_ | refine bi_leq_f (by omega) ?_ | refine bi_geq_t (by omega) ?_ | refine bi_geq_f (by omega) ?_ | refine bi_xt0 ?_ | refine bi_xt1 ?_ | refine bi_xt2 ?_ | refine bi_xt3 ?_ | refine bi_T ?_ | refine bi_F ?_ | refine bi_not ?_ | refine bi_and ?_ | refine bi_or ?_ | refine bi_xor ?_ | refine bi_shr (by omega) (by decide) ?_ | refine bi_shl (by omega) (by decide) ?_ | refine bi_quo64 (by omega) ?_ | refine bi_rem64 (by omega) ?_ | refine bi_mul64 (by omega) ?_ | refine bi_neg ?_ | refine bi_un_xor32 ?_ | refine bi_add ?_ | refine bi_sub ?_ | refine bi_mul ?_ | refine bi_quo (by decide) ?_ | refine bi_rem (by decide) ?_)
  refine (light11 v4 [r] 1 (by decide) w4 ho4.rd).mono ?_
  rintro _ _ ⟨z, rfl, _, rfl⟩
  cases z with
  | false =>
    (repeat with_reducible first | refine nck ?_ | refine cdT ?_ | refine cdF ?_ | refine gdY ?_ | refine gdFT ?_ | refine gdTF ?_ | refine gdU ?_ | refine gaY ?_ | refine gaFT ?_ | refine gaTF ?_ | refine pickT ?_ | refine pickF ?_ | refine bi_lss_t (by omega) ?_ | refine bi_lss_f (by omega) ?_ | refine bi_add64 (by omega) ?_ | refine bi_sub64 (by omega) ?_ | refine bi_eql_t (by omega) ?_ | refine bi_eql_f (by omega) ?_ | refine bi_neq_t (by omega) ?_ | refine bi_neq_f (by omega) ?_ | refine bi_gtr_t (by omega) ?_ | refine bi_gtr_f (by omega) ?_ | refine bi_leq_t (by omega) ?_ | refine bi_leq_f (by omega) ?_ | refine bi_geq_t (by omega) ?_ | refine bi_geq_f (by omega) ?_ | refine bi_xt0 ?_ | refine bi_xt1 ?_ | refine bi_xt2 ?_ | refine bi_xt3 ?_ | refine bi_T ?_ | refine bi_F ?_ | refine bi_not ?_ | refine bi_and ?_ | refine bi_or ?_ | refine bi_xor ?_ | refine bi_shr (by omega) (by decide) ?_ | refine bi_shl (by omega) (by decide) ?_ | refine bi_quo64 (by omega) ?_ | refine bi_rem64 (by omega) ?_ | refine bi_mul64 (by omega) ?_ | refine bi_neg ?_ | refine bi_un_xor32 ?_ | refine bi_add ?_ | refine bi_sub ?_ | refine bi_mul ?_ | refine bi_quo (by decide) ?_ | refine bi_rem (by decide) ?_)
    exact ⟨rfl, hb4⟩
  | true =>
  (repeat with_reducible first | refine nck ?_ | refine cdT ?_ | refine cdF ?_ | refine gdY ?_ | refine gdFT ?_ | refine gdTF ?_ | refine gdU ?_ | refine gaY ?_ | refine gaFT ?_ | refine gaTF ?_ | refine pickT ?_ | refine pickF ?_ | refine bi_lss_t (by omega) ?_ | refine bi_lss_f (by omega) ?_ | refine bi_add64 (by omega) ?_ | refine bi_sub64 (by omega) ?_ | refine bi_eql_t (by omega) ?_ | refine bi_eql_f (by omega) ?_ | refine bi_neq_t (by omega) ?_ | refine bi_neq_f (by omega) ?_ | refine bi_gtr_t (by omega) ?_ | refine bi_gtr_f (by omega) ?_ | refine bi_leq_t (by omega) ?_ | refine bi_leq_f (by omega) ?_ | refine bi_geq_t (by omega) ?_ | refine bi_geq_f (by omega) ?_ | refine bi_xt0 ?_ | refine bi_xt1 ?_ | refine bi_xt2 ?_ | refine bi_xt3 ?_ | refine bi_T ?_ | refine bi_F ?_ | refine bi_not ?_ | refine bi_and ?_ | refine bi_or ?_ | refine bi_xor ?_ | refine bi_shr (by omega) (by decide) ?_ | refine bi_shl (by omega) (by decide) ?_ | refine bi_quo64 (by omega) ?_ | refine bi_rem64 (by omega) ?_ | refine bi_mul64 (by omega) ?_ | refine bi_neg ?_ | refine bi_un_xor32 ?_ | refine bi_add ?_ | refine bi_sub ?_ | refine bi_mul ?_ | refine bi_quo (by decide) ?_ | refine bi_rem (by decide) ?_)
  refine tln und9 ?_
  (repeat with_reducible first | refine nck ?_ | refine cdT ?_ | refine cdF ?_ | refine gdY ?_ | refine gdFT ?_ | refine gdTF ?_ | refine gdU ?_ | refine gaY ?_ | refine gaFT ?_ | refine gaTF ?_ | refine pickT ?_ | refine pickF ?_ | refine bi_lss_t (by omega) ?_ | refine bi_lss_f (by omega) ?_ | refine bi_add64 (by omega) ?_ | refine bi_sub64 (by omega) ?_ | refine bi_eql_t (by omega) ?_ | refine bi_eql_f (by omega) ?_ | refine bi_neq_t (by omega) ?_ | refine bi_neq_f (by omega) ?_ | refine bi_gtr_t (by omega) ?_ | refine bi_gtr_f (by omega) ?_ | refine bi_leq_t (by omega) ?_ | refine bi_leq_f (by omega) ?_ | refine bi_geq_t (by omega) ?_ | refine bi_geq_f (by omega) ?_ | refine bi_xt0 ?_ | refine bi_xt1 ?_ | refine bi_xt2 ?_ | refine bi_xt3 ?_ | refine bi_T ?_ | refine bi_F ?_ | refine bi_not ?_ | refine bi_and ?_ | refine bi_or ?_ | refine bi_xor ?_ | refine bi_shr (by omega) (by decide) ?_ | refine bi_shl (by omega) (by decide) ?_ | refine bi_quo64 (by omega) ?_ | refine bi_rem64 (by omega) ?_ | refine bi_mul64 (by omega) ?_ | refine bi_neg ?_ | refine bi_un_xor32 ?_ | refine bi_add ?_ | refine bi_sub ?_ | refine bi_mul ?_ | refine bi_quo (by decide) ?_ | refine bi_rem (by decide) ?_)
  refine bi_gtr_c (fun h => ?_) (fun h => ?_)
  · (repeat with_reducible first | refine nck ?_ | refine cdT ?_ | refine cdF ?_ | refine gdY ?_ | refine gdFT ?_ | refine gdTF ?_ | refine gdU ?_ | refine gaY ?_ | refine gaFT ?_ | refine gaTF ?_ | refine pickT ?_ | refine pickF ?_ | refine bi_lss_t (by omega) ?_ | refine bi_lss_f (by omega) ?_ | refine bi_add64 (by omega) ?_ | refine bi_sub64 (by omega) ?_ | refine bi_eql_t (by omega) ?_ | refine bi_eql_f (by omega) ?_ | refine bi_neq_t (by omega) ?_ | refine bi_neq_f (by omega) ?_ | refine bi_gtr_t (by omega) ?_ | refine bi_gtr_f (by omega) ?_ | refine bi_leq_t (by omega) ?_ | refine bi_leq_f (by omega) ?_ | refine bi_geq_t (by omega) ?_ | refine bi_geq_f (by omega) ?_ | refine bi_xt0 ?_ | refine bi_xt1 ?_ | refine bi_xt2 ?_ | refine bi_xt3 ?_ | refine bi_T ?_ | refine bi_F ?_ | refine bi_not ?_ | refine bi_and ?_ | refine bi_or ?_ | refine bi_xor ?_ | refine bi_shr (by omega) (by decide) ?_ | refine bi_shl (by omega) (by decide) ?_ | refine bi_quo64 (by omega) ?_ | refine bi_rem64 (by omega) ?_ | refine bi_mul64 (by omega) ?_ | refine bi_neg ?_ | refine bi_un_xor32 ?_ | refine bi_add ?_ | refine bi_sub ?_ | refine bi_mul ?_ | refine bi_quo (by decide) ?_ | refine bi_rem (by decide) ?_)
    exact ⟨rfl, hb4⟩
  (repeat with_reducible first | refine nck ?_ | refine cdT ?_ | refine cdF ?_ | refine gdY ?_ | refine gdFT ?_ | refine gdTF ?_ | refine gdU ?_ | refine gaY ?_ | refine gaFT ?_ | refine gaTF ?_ | refine pickT ?_ | refine pickF ?_ | refine bi_lss_t (by omega) ?_ | refine bi_lss_f (by omega) ?_ | refine bi_add64 (by omega) ?_ | refine bi_sub64 (by omega) ?_ | refine bi_eql_t (by omega) ?_ | refine bi_eql_f (by omega) ?_ | refine bi_neq_t (by omega) ?_ | refine bi_neq_f (by omega) ?_ | refine bi_gtr_t (by omega) ?_ | refine bi_gtr_f (by omega) ?_ | refine bi_leq_t (by omega) ?_ | refine bi_leq_f (by omega) ?_ | refine bi_geq_t (by omega) ?_ | refine bi_geq_f (by omega) ?_ | refine bi_xt0 ?_ | refine bi_xt1 ?_ | refine bi_xt2 ?_ | refine bi_xt3 ?_ | refine bi_T ?_ | refine bi_F ?_ | refine bi_not ?_ | refine bi_and ?_ | refine bi_or ?_ | refine bi_xor ?_ | refine bi_shr (by omega) (by decide) ?_ | refine bi_shl (by omega) (by decide) ?_ | refine bi_quo64 (by omega) ?_ | refine bi_rem64 (by omega) ?_ | refine bi_mul64 (by omega) ?_ | refine bi_neg ?_ | refine bi_un_xor32 ?_ | refine bi_add ?_ | refine bi_sub ?_ | refine bi_mul ?_ | refine bi_quo (by decide) ?_ | refine bi_rem (by decide) ?_)
  refine (New27 1 (by decide) (fun _ => 0) lease w4).mono ?_
  rintro _ w5 ⟨g1, c5, rfl, hc5, hS5, h5⟩
  have hle1 : 1 ≤ max lease 1 := by omega
  have hle2 : max lease 1 ≤ 9223372036854775807 := by omega
  generalize max lease 1 = le at *
  have hlow : ∀ k, k < w4.heap.size → c5 k = 0 := fun k hk => hc5 k hk
  have hv4 := keeps_AcR _ _ _ _ hb4 hv
  refine ofPR (pr_pnil und41) ?_
  simp only [Option.isNone_some]
  (repeat with_reducible first | refine nck ?_ | refine cdT ?_ | refine cdF ?_ | refine gdY ?_ | refine gdFT ?_ | refine gdTF ?_ | refine gdU ?_ | refine gaY ?_ | refine gaFT ?_ | refine gaTF ?_ | refine pickT ?_ | refine pickF ?_ | refine bi_lss_t (by omega) ?_ | refine bi_lss_f (by omega) ?_ | refine bi_add64 (by omega) ?_ | refine bi_sub64 (by omega) ?_ | refine bi_eql_t (by omega) ?_ | refine bi_eql_f (by omega) ?_ | refine bi_neq_t (by omega) ?_ | refine bi_neq_f (by omega) ?_ | refine bi_gtr_t (by omega) ?_ | refine bi_gtr_f (by omega) ?_ | refine bi_leq_t (by omega) ?_ | refine bi_leq_f (by omega) ?_ | refine bi_geq_t (by omega) ?_ | refine bi_geq_f (by omega) ?_ | refine bi_xt0 ?_ | refine bi_xt1 ?_ | refine bi_xt2 ?_ | refine bi_xt3 ?_ | refine bi_T ?_ | refine bi_F ?_ | refine bi_not ?_ | refine bi_and ?_ | refine bi_or ?_ | refine bi_xor ?_ | refine bi_shr (by omega) (by decide) ?_ | refine bi_shl (by omega) (by decide) ?_ | refine bi_quo64 (by omega) ?_ | refine bi_rem64 (by omega) ?_ | refine bi_mul64 (by omega) ?_ | refine bi_neg ?_ | refine bi_un_xor32 ?_ | refine bi_add ?_ | refine bi_sub ?_ | refine bi_mul ?_ | refine bi_quo (by decide) ?_ | refine bi_rem (by decide) ?_)
  refine LoopP.inv1 (fun iv w' => ∃ (k : Nat) (c : Nat → Nat) (V : LkV), k ≤ l.length ∧ iv = .int .i64 k ∧ (∀ j, j < w4.heap.size → c j = 0) ∧ LkS 1 c w' g1 le k V ∧ LkOk k le V ∧ Below w4.heap.size w4 w') (fun iv _ => l.length - (intOf iv).toNat) ⟨0, c5, fun _ => none, Nat.zero_le _, rfl, hlow, hS5, ok_nil le, h5⟩ ?_
  clear hlow h5 hS5 hc5
  rintro _ w7 ⟨k, c, V, hk, rfl, hlow, hS, hok, hb7⟩ J hJ
  dsimp only [List.headD_cons, List.tail_cons]
  refine ln und39 ?_
  refine bi_lss_c (fun hlt => ?_) (fun hlt => ?_)
  · have hk' : k < l.length := by omega
    obtain ⟨a, us, ha, hus, hcell, hr⟩ := rRow.at hv4 k hk'
    subst ha
    subst hr
    have kc := keepC (w := w4) hcell
    have hdr : Below w7.heap.size w7 w7.drew := (Below.refl _ _).drew
    (repeat with_reducible first | refine nck ?_ | refine cdT ?_ | refine cdF ?_ | refine gdY ?_ | refine gdFT ?_ | refine gdTF ?_ | refine gdU ?_ | refine gaY ?_ | refine gaFT ?_ | refine gaTF ?_ | refine pickT ?_ | refine pickF ?_ | refine bi_lss_t (by omega) ?_ | refine bi_lss_f (by omega) ?_ | refine bi_add64 (by omega) ?_ | refine bi_sub64 (by omega) ?_ | refine bi_eql_t (by omega) ?_ | refine bi_eql_f (by omega) ?_ | refine bi_neq_t (by omega) ?_ | refine bi_neq_f (by omega) ?_ | refine bi_gtr_t (by omega) ?_ | refine bi_gtr_f (by omega) ?_ | refine bi_leq_t (by omega) ?_ | refine bi_leq_f (by omega) ?_ | refine bi_geq_t (by omega) ?_ | refine bi_geq_f (by omega) ?_ | refine bi_xt0 ?_ | refine bi_xt1 ?_ | refine bi_xt2 ?_ | refine bi_xt3 ?_ | refine bi_T ?_ | refine bi_F ?_ | refine bi_not ?_ | refine bi_and ?_ | refine bi_or ?_ | refine bi_xor ?_ | refine bi_shr (by omega) (by decide) ?_ | refine bi_shl (by omega) (by decide) ?_ | refine bi_quo64 (by omega) ?_ | refine bi_rem64 (by omega) ?_ | refine bi_mul64 (by omega) ?_ | refine bi_neg ?_ | refine bi_un_xor32 ?_ | refine bi_add ?_ | refine bi_sub ?_ | refine bi_mul ?_ | refine bi_quo (by decide) ?_ | refine bi_rem (by decide) ?_)
    refine draw (Below w4.heap.size w4) (below_then hb7 hdr) ?_
    refine yixA und39 sz46 k hk' ?_
    refine yldR (us := acF l[k]) agg46 kc (by rw [sz46]; rfl) ?_
    refine act ?_
    refine (refNew32 2 (by decide) c 1 w7.drew).mono ?_
    rintro _ wB ⟨g2, cB, rfl, hcB, hRB, hB⟩
    rw [show max (1 : Int) 1 = 1 by decide] at hRB
    have hbB := below_then (below_then hb7 hdr) hB
    refine ⟨_, hbB, fun _ h => h, ?_⟩
    have hBo : Both cB wB g1 g2 le 1 k 0 V (fun _ => none) := ⟨((hS.below hdr).re hcB).below hB, hRB⟩
    have hlowB : ∀ j, j < w4.heap.size → cB j = 0 := fun j hj => (hcB j (Nat.lt_of_lt_of_le hj (below_then hb7 hdr).size)).trans (hlow j hj)
    refine (do31 l[k] hBo (hok.mono (by omega)) ((ok_nil 1).mono (by omega)) (by omega) (by omega) (hl64 _ (List.getElem_mem hk')) hle2).mono ?_
    rintro _ wC ⟨b, rfl, _, hL⟩
    obtain ⟨cC, hlowC, hBC, hbC⟩ := hL.keep hlowB hbB
    (repeat with_reducible first | refine nck ?_ | refine cdT ?_ | refine cdF ?_ | refine gdY ?_ | refine gdFT ?_ | refine gdTF ?_ | refine gdU ?_ | refine gaY ?_ | refine gaFT ?_ | refine gaTF ?_ | refine pickT ?_ | refine pickF ?_ | refine bi_lss_t (by omega) ?_ | refine bi_lss_f (by omega) ?_ | refine bi_add64 (by omega) ?_ | refine bi_sub64 (by omega) ?_ | refine bi_eql_t (by omega) ?_ | refine bi_eql_f (by omega) ?_ | refine bi_neq_t (by omega) ?_ | refine bi_neq_f (by omega) ?_ | refine bi_gtr_t (by omega) ?_ | refine bi_gtr_f (by omega) ?_ | refine bi_leq_t (by omega) ?_ | refine bi_leq_f (by omega) ?_ | refine bi_geq_t (by omega) ?_ | refine bi_geq_f (by omega) ?_ | refine bi_xt0 ?_ | refine bi_xt1 ?_ | refine bi_xt2 ?_ | refine bi_xt3 ?_ | refine bi_T ?_ | refine bi_F ?_ | refine bi_not ?_ | refine bi_and ?_ | refine bi_or ?_ | refine bi_xor ?_ | refine bi_shr (by omega) (by decide) ?_ | refine bi_shl (by omega) (by decide) ?_ | refine bi_quo64 (by omega) ?_ | refine bi_rem64 (by omega) ?_ | refine bi_mul64 (by omega) ?_ | refine bi_neg ?_ | refine bi_un_xor32 ?_ | refine bi_add ?_ | refine bi_sub ?_ | refine bi_mul ?_ | refine bi_quo (by decide) ?_ | refine bi_rem (by decide) ?_)
    exact hJ _ _ ⟨k + 1, cC, _, by omega, by simp, hlowC, hBC.one, ok_act hok hle1 l[k], hbC⟩ (by simp [intOf]; omega)
  · have hN : LkOk 500 le V := hok.mono (by omega)
    (repeat with_reducible first | refine nck ?_ | refine cdT ?_ | refine cdF ?_ | refine gdY ?_ | refine gdFT ?_ | refine gdTF ?_ | refine gdU ?_ | refine gaY ?_ | refine gaFT ?_ | refine gaTF ?_ | refine pickT ?_ | refine pickF ?_ | refine bi_lss_t (by omega) ?_ | refine bi_lss_f (by omega) ?_ | refine bi_add64 (by omega) ?_ | refine bi_sub64 (by omega) ?_ | refine bi_eql_t (by omega) ?_ | refine bi_eql_f (by omega) ?_ | refine bi_neq_t (by omega) ?_ | refine bi_neq_f (by omega) ?_ | refine bi_gtr_t (by omega) ?_ | refine bi_gtr_f (by omega) ?_ | refine bi_leq_t (by omega) ?_ | refine bi_leq_f (by omega) ?_ | refine bi_geq_t (by omega) ?_ | refine bi_geq_f (by omega) ?_ | refine bi_xt0 ?_ | refine bi_xt1 ?_ | refine bi_xt2 ?_ | refine bi_xt3 ?_ | refine bi_T ?_ | refine bi_F ?_ | refine bi_not ?_ | refine bi_and ?_ | refine bi_or ?_ | refine bi_xor ?_ | refine bi_shr (by omega) (by decide) ?_ | refine bi_shl (by omega) (by decide) ?_ | refine bi_quo64 (by omega) ?_ | refine bi_rem64 (by omega) ?_ | refine bi_mul64 (by omega) ?_ | refine bi_neg ?_ | refine bi_un_xor32 ?_ | refine bi_add ?_ | refine bi_sub ?_ | refine bi_mul ?_ | refine bi_quo (by decide) ?_ | refine bi_rem (by decide) ?_)
    refine (Blocks30 s hS).mono ?_
    rintro _ w8 ⟨was, rfl, hwas, h8⟩
    have hb8 := below_then hb7 h8
    refine ldA agg23 (hR4.below' hb8) (szR r) ?_
    refine (Lose36 r (hS.below h8) hN).mono ?_
    rintro _ w9 hL
    obtain ⟨c9, hlow9, hS9, hb9⟩ := hL.keep (by decide) hb8 hlow
    have ok9 := ok_lose hok r
    have hbl := blocks_lose hok r s
    generalize loseV V r = V9 at *
    refine (Ids37 hS9 (by omega)).mono ?_
    rintro v10 w10 ⟨ids, hI, hil, ho10, _, h10⟩
    have hb10 := below_then hb9 h10
    have hS10 := hS9.below h10
    have hlen : (ids.map (Value.int .i64)).length = ids.length := List.length_map _
    obtain ⟨A10, c10, rfl, _⟩ := ho10.rd.slice
    rw [hlen]
    have hrd10 := ho10.rd
    rw [hlen] at hrd10
    refine LoopP.inv1 (fun iv w' => ∃ (i : Nat), i ≤ ids.length ∧ iv = .int .i64 i ∧ Below w10.heap.size w10 w') (fun iv _ => ids.length - (intOf iv).toNat) ⟨0, Nat.zero_le _, rfl, Below.refl _ _⟩ ?_
    rintro _ w11 ⟨i, hi, rfl, h11⟩ J2 hJ2
    dsimp only [List.headD_cons, List.tail_cons]
    refine ln und37' ?_
    refine bi_lss_c (fun hlt2 => ?_) (fun hlt2 => ?_)
    · have hi' : i < ids.length := by omega
      obtain ⟨a, rfl, hca⟩ := Rd.atI (hrd10.below h11) i hi'
      (repeat with_reducible first | refine ix1 und37' sz3' hi' ?_ | refine ld one3' hca ?_ | refine nck ?_ | refine cdT ?_ | refine cdF ?_ | refine gdY ?_ | refine gdFT ?_ | refine gdTF ?_ | refine gdU ?_ | refine gaY ?_ | refine gaFT ?_ | refine gaTF ?_ | refine pickT ?_ | refine pickF ?_ | refine bi_lss_t (by omega) ?_ | refine bi_lss_f (by omega) ?_ | refine bi_add64 (by omega) ?_ | refine bi_sub64 (by omega) ?_ | refine bi_eql_t (by omega) ?_ | refine bi_eql_f (by omega) ?_ | refine bi_neq_t (by omega) ?_ | refine bi_neq_f (by omega) ?_ | refine bi_gtr_t (by omega) ?_ | refine bi_gtr_f (by omega) ?_ | refine bi_leq_t (by omega) ?_ | refine bi_leq_f (by omega) ?_ | refine bi_geq_t (by omega) ?_ | refine bi_geq_f (by omega) ?_ | refine bi_xt0 ?_ | refine bi_xt1 ?_ | refine bi_xt2 ?_ | refine bi_xt3 ?_ | refine bi_T ?_ | refine bi_F ?_ | refine bi_not ?_ | refine bi_and ?_ | refine bi_or ?_ | refine bi_xor ?_ | refine bi_shr (by omega) (by decide) ?_ | refine bi_shl (by omega) (by decide) ?_ | refine bi_quo64 (by omega) ?_ | refine bi_rem64 (by omega) ?_ | refine bi_mul64 (by omega) ?_ | refine bi_neg ?_ | refine bi_un_xor32 ?_ | refine bi_add ?_ | refine bi_sub ?_ | refine bi_mul ?_ | refine bi_quo (by decide) ?_ | refine bi_rem (by decide) ?_)
      refine (Ranges35 ids[i] (hS10.below h11) (ok9.mono (by omega))).mono ?_
      rintro v12 w12 ⟨ho12, h12⟩
      have hin := (hI.2 ids[i]).1 (List.getElem_mem hi')
      obtain ⟨⟨L, left⟩, hLe⟩ := Option.ne_none_iff_exists'.1 hin
      obtain ⟨_, _, hne, _⟩ := ok9 ids[i] L left hLe
      rw [hLe] at ho12
      replace ho12 : OwnG w11.heap.size w12 v12 L := ho12
      have hLl : 0 < L.length := List.length_pos_iff.2 hne
      obtain ⟨g, cap, rfl, _⟩ := rowAt rgF_len ho12.1 0 hLl (by decide)
      (repeat with_reducible first | refine nck ?_ | refine cdT ?_ | refine cdF ?_ | refine gdY ?_ | refine gdFT ?_ | refine gdTF ?_ | refine gdU ?_ | refine gaY ?_ | refine gaFT ?_ | refine gaTF ?_ | refine pickT ?_ | refine pickF ?_ | refine bi_lss_t (by omega) ?_ | refine bi_lss_f (by omega) ?_ | refine bi_add64 (by omega) ?_ | refine bi_sub64 (by omega) ?_ | refine bi_eql_t (by omega) ?_ | refine bi_eql_f (by omega) ?_ | refine bi_neq_t (by omega) ?_ | refine bi_neq_f (by omega) ?_ | refine bi_gtr_t (by omega) ?_ | refine bi_gtr_f (by omega) ?_ | refine bi_leq_t (by omega) ?_ | refine bi_leq_f (by omega) ?_ | refine bi_geq_t (by omega) ?_ | refine bi_geq_f (by omega) ?_ | refine bi_xt0 ?_ | refine bi_xt1 ?_ | refine bi_xt2 ?_ | refine bi_xt3 ?_ | refine bi_T ?_ | refine bi_F ?_ | refine bi_not ?_ | refine bi_and ?_ | refine bi_or ?_ | refine bi_xor ?_ | refine bi_shr (by omega) (by decide) ?_ | refine bi_shl (by omega) (by decide) ?_ | refine bi_quo64 (by omega) ?_ | refine bi_rem64 (by omega) ?_ | refine bi_mul64 (by omega) ?_ | refine bi_neg ?_ | refine bi_un_xor32 ?_ | refine bi_add ?_ | refine bi_sub ?_ | refine bi_mul ?_ | refine bi_quo (by decide) ?_ | refine bi_rem (by decide) ?_)
      refine ln und26 ?_
      refine bi_eql_c (fun e => absurd e (by omega)) (fun _ => ?_)
      (repeat with_reducible first | refine nck ?_ | refine cdT ?_ | refine cdF ?_ | refine gdY ?_ | refine gdFT ?_ | refine gdTF ?_ | refine gdU ?_ | refine gaY ?_ | refine gaFT ?_ | refine gaTF ?_ | refine pickT ?_ | refine pickF ?_ | refine bi_lss_t (by omega) ?_ | refine bi_lss_f (by omega) ?_ | refine bi_add64 (by omega) ?_ | refine bi_sub64 (by omega) ?_ | refine bi_eql_t (by omega) ?_ | refine bi_eql_f (by omega) ?_ | refine bi_neq_t (by omega) ?_ | refine bi_neq_f (by omega) ?_ | refine bi_gtr_t (by omega) ?_ | refine bi_gtr_f (by omega) ?_ | refine bi_leq_t (by omega) ?_ | refine bi_leq_f (by omega) ?_ | refine bi_geq_t (by omega) ?_ | refine bi_geq_f (by omega) ?_ | refine bi_xt0 ?_ | refine bi_xt1 ?_ | refine bi_xt2 ?_ | refine bi_xt3 ?_ | refine bi_T ?_ | refine bi_F ?_ | refine bi_not ?_ | refine bi_and ?_ | refine bi_or ?_ | refine bi_xor ?_ | refine bi_shr (by omega) (by decide) ?_ | refine bi_shl (by omega) (by decide) ?_ | refine bi_quo64 (by omega) ?_ | refine bi_rem64 (by omega) ?_ | refine bi_mul64 (by omega) ?_ | refine bi_neg ?_ | refine bi_un_xor32 ?_ | refine bi_add ?_ | refine bi_sub ?_ | refine bi_mul ?_ | refine bi_quo (by decide) ?_ | refine bi_rem (by decide) ?_)
      refine bd (cells := rgA ([33], [])) (by kernel_rfl) ?_
      refine ixG und26 sz23 0 hLl ?_
      refine stE ho12.1 0 hLl rfl sz23 (rgA_one _) ?_
      intro w13 _ hT13
      have hg : w11.heap.size ≤ g := ho12.2 g rfl
      have h13 : Below w11.heap.size w11 w13 := below_own h12 hT13 hg
      (repeat with_reducible first | refine nck ?_ | refine cdT ?_ | refine cdF ?_ | refine gdY ?_ | refine gdFT ?_ | refine gdTF ?_ | refine gdU ?_ | refine gaY ?_ | refine gaFT ?_ | refine gaTF ?_ | refine pickT ?_ | refine pickF ?_ | refine bi_lss_t (by omega) ?_ | refine bi_lss_f (by omega) ?_ | refine bi_add64 (by omega) ?_ | refine bi_sub64 (by omega) ?_ | refine bi_eql_t (by omega) ?_ | refine bi_eql_f (by omega) ?_ | refine bi_neq_t (by omega) ?_ | refine bi_neq_f (by omega) ?_ | refine bi_gtr_t (by omega) ?_ | refine bi_gtr_f (by omega) ?_ | refine bi_leq_t (by omega) ?_ | refine bi_leq_f (by omega) ?_ | refine bi_geq_t (by omega) ?_ | refine bi_geq_f (by omega) ?_ | refine bi_xt0 ?_ | refine bi_xt1 ?_ | refine bi_xt2 ?_ | refine bi_xt3 ?_ | refine bi_T ?_ | refine bi_F ?_ | refine bi_not ?_ | refine bi_and ?_ | refine bi_or ?_ | refine bi_xor ?_ | refine bi_shr (by omega) (by decide) ?_ | refine bi_shl (by omega) (by decide) ?_ | refine bi_quo64 (by omega) ?_ | refine bi_rem64 (by omega) ?_ | refine bi_mul64 (by omega) ?_ | refine bi_neg ?_ | refine bi_un_xor32 ?_ | refine bi_add ?_ | refine bi_sub ?_ | refine bi_mul ?_ | refine bi_quo (by decide) ?_ | refine bi_rem (by decide) ?_)
      exact hJ2 _ _ ⟨i + 1, by omega, by simp, below_then h11 h13⟩ (by simp [intOf]; omega)
    · (repeat with_reducible first | refine nck ?_ | refine cdT ?_ | refine cdF ?_ | refine gdY ?_ | refine gdFT ?_ | refine gdTF ?_ | refine gdU ?_ | refine gaY ?_ | refine gaFT ?_ | refine gaTF ?_ | refine pickT ?_ | refine pickF ?_ | refine bi_lss_t (by omega) ?_ | refine bi_lss_f (by omega) ?_ | refine bi_add64 (by omega) ?_ | refine bi_sub64 (by omega) ?_ | refine bi_eql_t (by omega) ?_ | refine bi_eql_f (by omega) ?_ | refine bi_neq_t (by omega) ?_ | refine bi_neq_f (by omega) ?_ | refine bi_gtr_t (by omega) ?_ | refine bi_gtr_f (by omega) ?_ | refine bi_leq_t (by omega) ?_ | refine bi_leq_f (by omega) ?_ | refine bi_geq_t (by omega) ?_ | refine bi_geq_f (by omega) ?_ | refine bi_xt0 ?_ | refine bi_xt1 ?_ | refine bi_xt2 ?_ | refine bi_xt3 ?_ | refine bi_T ?_ | refine bi_F ?_ | refine bi_not ?_ | refine bi_and ?_ | refine bi_or ?_ | refine bi_xor ?_ | refine bi_shr (by omega) (by decide) ?_ | refine bi_shl (by omega) (by decide) ?_ | refine bi_quo64 (by omega) ?_ | refine bi_rem64 (by omega) ?_ | refine bi_mul64 (by omega) ?_ | refine bi_neg ?_ | refine bi_un_xor32 ?_ | refine bi_add ?_ | refine bi_sub ?_ | refine bi_mul ?_ | refine bi_quo (by decide) ?_ | refine bi_rem (by decide) ?_)
      refine (Blocks30 s (hS10.below h11)).mono ?_
      rintro _ w12 ⟨now, rfl, hnow, h12⟩
      have hb12 := below_then (below_then hb10 h11) h12
      have hnw := hnow.trans hbl
      cases was with
      | false =>
        have hw : ¬ blocksV V s := fun e => by have := hwas.2 e; cases this
        have : now = false := by
          cases now with
          | false => rfl
          | true => exact absurd (hnw.1 rfl).1 hw
        subst this
        (repeat with_reducible first | refine nck ?_ | refine cdT ?_ | refine cdF ?_ | refine gdY ?_ | refine gdFT ?_ | refine gdTF ?_ | refine gdU ?_ | refine gaY ?_ | refine gaFT ?_ | refine gaTF ?_ | refine pickT ?_ | refine pickF ?_ | refine bi_lss_t (by omega) ?_ | refine bi_lss_f (by omega) ?_ | refine bi_add64 (by omega) ?_ | refine bi_sub64 (by omega) ?_ | refine bi_eql_t (by omega) ?_ | refine bi_eql_f (by omega) ?_ | refine bi_neq_t (by omega) ?_ | refine bi_neq_f (by omega) ?_ | refine bi_gtr_t (by omega) ?_ | refine bi_gtr_f (by omega) ?_ | refine bi_leq_t (by omega) ?_ | refine bi_leq_f (by omega) ?_ | refine bi_geq_t (by omega) ?_ | refine bi_geq_f (by omega) ?_ | refine bi_xt0 ?_ | refine bi_xt1 ?_ | refine bi_xt2 ?_ | refine bi_xt3 ?_ | refine bi_T ?_ | refine bi_F ?_ | refine bi_not ?_ | refine bi_and ?_ | refine bi_or ?_ | refine bi_xor ?_ | refine bi_shr (by omega) (by decide) ?_ | refine bi_shl (by omega) (by decide) ?_ | refine bi_quo64 (by omega) ?_ | refine bi_rem64 (by omega) ?_ | refine bi_mul64 (by omega) ?_ | refine bi_neg ?_ | refine bi_un_xor32 ?_ | refine bi_add ?_ | refine bi_sub ?_ | refine bi_mul ?_ | refine bi_quo (by decide) ?_ | refine bi_rem (by decide) ?_)
        refine bi_beql und4 ?_
        exact ⟨rfl, below_then hb4 hb12⟩
      | true =>
        have hw := hwas.1 rfl
        (repeat with_reducible first | refine nck ?_ | refine cdT ?_ | refine cdF ?_ | refine gdY ?_ | refine gdFT ?_ | refine gdTF ?_ | refine gdU ?_ | refine gaY ?_ | refine gaFT ?_ | refine gaTF ?_ | refine pickT ?_ | refine pickF ?_ | refine bi_lss_t (by omega) ?_ | refine bi_lss_f (by omega) ?_ | refine bi_add64 (by omega) ?_ | refine bi_sub64 (by omega) ?_ | refine bi_eql_t (by omega) ?_ | refine bi_eql_f (by omega) ?_ | refine bi_neq_t (by omega) ?_ | refine bi_neq_f (by omega) ?_ | refine bi_gtr_t (by omega) ?_ | refine bi_gtr_f (by omega) ?_ | refine bi_leq_t (by omega) ?_ | refine bi_leq_f (by omega) ?_ | refine bi_geq_t (by omega) ?_ | refine bi_geq_f (by omega) ?_ | refine bi_xt0 ?_ | refine bi_xt1 ?_ | refine bi_xt2 ?_ | refine bi_xt3 ?_ | refine bi_T ?_ | refine bi_F ?_ | refine bi_not ?_ | refine bi_and ?_ | refine bi_or ?_ | refine bi_xor ?_ | refine bi_shr (by omega) (by decide) ?_ | refine bi_shl (by omega) (by decide) ?_ | refine bi_quo64 (by omega) ?_ | refine bi_rem64 (by omega) ?_ | refine bi_mul64 (by omega) ?_ | refine bi_neg ?_ | refine bi_un_xor32 ?_ | refine bi_add ?_ | refine bi_sub ?_ | refine bi_mul ?_ | refine bi_quo (by decide) ?_ | refine bi_rem (by decide) ?_)
        refine ldA agg23 (hR4.below' hb12) (szR r) ?_
        (repeat with_reducible first | refine nck ?_ | refine cdT ?_ | refine cdF ?_ | refine gdY ?_ | refine gdFT ?_ | refine gdTF ?_ | refine gdU ?_ | refine gaY ?_ | refine gaFT ?_ | refine gaTF ?_ | refine pickT ?_ | refine pickF ?_ | refine bi_lss_t (by omega) ?_ | refine bi_lss_f (by omega) ?_ | refine bi_add64 (by omega) ?_ | refine bi_sub64 (by omega) ?_ | refine bi_eql_t (by omega) ?_ | refine bi_eql_f (by omega) ?_ | refine bi_neq_t (by omega) ?_ | refine bi_neq_f (by omega) ?_ | refine bi_gtr_t (by omega) ?_ | refine bi_gtr_f (by omega) ?_ | refine bi_leq_t (by omega) ?_ | refine bi_leq_f (by omega) ?_ | refine bi_geq_t (by omega) ?_ | refine bi_geq_f (by omega) ?_ | refine bi_xt0 ?_ | refine bi_xt1 ?_ | refine bi_xt2 ?_ | refine bi_xt3 ?_ | refine bi_T ?_ | refine bi_F ?_ | refine bi_not ?_ | refine bi_and ?_ | refine bi_or ?_ | refine bi_xor ?_ | refine bi_shr (by omega) (by decide) ?_ | refine bi_shl (by omega) (by decide) ?_ | refine bi_quo64 (by omega) ?_ | refine bi_rem64 (by omega) ?_ | refine bi_mul64 (by omega) ?_ | refine bi_neg ?_ | refine bi_un_xor32 ?_ | refine bi_add ?_ | refine bi_sub ?_ | refine bi_mul ?_ | refine bi_quo (by decide) ?_ | refine bi_rem (by decide) ?_)
        refine (has17 r s w12).mono ?_
        rintro _ w14 ⟨rfl, h14⟩
        have : now = !decide (hasR r s) := by
          rw [Bool.eq_iff_iff, hnw]
          simp only [Bool.not_eq_true', decide_eq_false_iff_not]
          exact ⟨fun e => e.2, fun e => ⟨hw, e⟩⟩
        subst this
        rcases Classical.em (hasR r s) with hhas | hhas
        all_goals first | rw [decide_eq_true hhas] | rw [decide_eq_false hhas]
        all_goals
          (repeat with_reducible first | refine nck ?_ | refine cdT ?_ | refine cdF ?_ | refine gdY ?_ | refine gdFT ?_ | refine gdTF ?_ | refine gdU ?_ | refine gaY ?_ | refine gaFT ?_ | refine gaTF ?_ | refine pickT ?_ | refine pickF ?_ | refine bi_lss_t (by omega) ?_ | refine bi_lss_f (by omega) ?_ | refine bi_add64 (by omega) ?_ | refine bi_sub64 (by omega) ?_ | refine bi_eql_t (by omega) ?_ | refine bi_eql_f (by omega) ?_ | refine bi_neq_t (by omega) ?_ | refine bi_neq_f (by omega) ?_ | refine bi_gtr_t (by omega) ?_ | refine bi_gtr_f (by omega) ?_ | refine bi_leq_t (by omega) ?_ | refine bi_leq_f (by omega) ?_ | refine bi_geq_t (by omega) ?_ | refine bi_geq_f (by omega) ?_ | refine bi_xt0 ?_ | refine bi_xt1 ?_ | refine bi_xt2 ?_ | refine bi_xt3 ?_ | refine bi_T ?_ | refine bi_F ?_ | refine bi_not ?_ | refine bi_and ?_ | refine bi_or ?_ | refine bi_xor ?_ | refine bi_shr (by omega) (by decide) ?_ | refine bi_shl (by omega) (by decide) ?_ | refine bi_quo64 (by omega) ?_ | refine bi_rem64 (by omega) ?_ | refine bi_mul64 (by omega) ?_ | refine bi_neg ?_ | refine bi_un_xor32 ?_ | refine bi_add ?_ | refine bi_sub ?_ | refine bi_mul ?_ | refine bi_quo (by decide) ?_ | refine bi_rem (by decide) ?_)
          refine bi_beql und4 ?_
          exact ⟨rfl, below_then hb4 (below_then hb12 h14)⟩
end Go.Proofs.Ytcihbjempijhpaa.E
/- The three laws of locks, as the statements call them. -/
namespace Go.Proofs.Ytcihbjempijhpaa.E
open Go Go.RowKit
set_option linter.unusedSimpArgs false
set_option linter.unusedVariables false

theorem acsT_64 {w : World} {v : Value} {l : List ActT} (h : ActsR w [v] l) : ∀ a ∈ l.map toAct, a.id ≤ 9223372036854775807 := by
  obtain ⟨A, c, he, h1, h2, h3⟩ := h
  intro a ha
  obtain ⟨x, hx, rfl⟩ := List.mem_map.1 ha
  obtain ⟨i, hi, rfl⟩ := List.getElem_of_mem hx
  obtain ⟨a, us, _, hus, hcell, hr⟩ := h3 i l[i] (List.getElem?_eq_getElem hi)
  exact (bounds_i64 (acT_cells hr).2).2
theorem LockPlays_law (lease : Int) (hl : (Lit.int .i64 lease).wf = true) (v : Value) (l : List ActT) (c : Array Value) (z : RgT) (s : ByteArray) (w : World) (h0 : ActsR w [v] l) (h1 : rRgT w c.toList z) :
    CallP Try.prog 9 #[.int .i64 lease, v, .agg c, .string s] (fun r w' => r = .bool true ∧ Below w.heap.size w w') w := by
  rw [rgT_agg h1, tS_of]
  exact lockPlays lease (bounds_i64 hl).2 v _ (acsT_64 h0) _ _ w (acsT_of h0)
theorem LockLoses_law (lease : Int) (hl : (Lit.int .i64 lease).wf = true) (v : Value) (l : List ActT) (c : Array Value) (z : RgT) (s : ByteArray) (w : World) (h0 : ActsR w [v] l) (h1 : rRgT w c.toList z) :
    CallP Try.prog 8 #[.int .i64 lease, v, .agg c, .string s] (fun r w' => r = .bool true ∧ Below w.heap.size w w') w := by
  rw [rgT_agg h1, tS_of]
  exact lockLoses lease (bounds_i64 hl).2 v _ (acsT_64 h0) _ _ w (acsT_of h0)
theorem LockHolds_law (lease id : Int) (hi : (Lit.int .i64 id).wf = true) (c : Array Value) (z : RgT) (s : ByteArray) (v : Value) (l : List ActT) (w : World) (h0 : ActsR w [v] l) (h1 : rRgT w c.toList z) :
    CallP Try.prog 7 #[.int .i64 lease, .int .i64 id, .agg c, .string s, v] (fun r w' => r = .bool true ∧ Below w.heap.size w w') w := by
  rw [rgT_agg h1, tS_of]
  exact lockHolds lease id (bounds_i64 hi).2 _ _ v _ (acsT_64 h0) w (acsT_of h0)
end Go.Proofs.Ytcihbjempijhpaa.E
