/- The reference's put. -/
import Derived.Test.YtmnaggdhkggjhaaOnX
namespace Go.Proofs.Ytmnaggdhkggjhaa.E
open Go Go.RowKit
set_option linter.unusedSimpArgs false
set_option linter.unusedVariables false

def ltO (y x : OneM) : Bool := decide (y.cl < x.cl) || (decide (y.cl = x.cl) && decide (y.no < x.no))
def putL (x : OneM) : List OneM → List OneM
  | [] => [x]
  | y :: r => if ltO y x = true then y :: putL x r else x :: y :: r
theorem putL_split (x : OneM) : ∀ (L : List OneM) (i : Nat) (hi : i ≤ L.length), (∀ y ∈ L.take i, ltO y x = true) → (∀ h : i < L.length, ¬ ltO L[i] x = true) → L.take i ++ x :: L.drop i = putL x L
  | [], i, hi, _, _ => by
    have : i = 0 := by simpa using hi
    subst this; rfl
  | y :: r, 0, _, _, h2 => by
    have h2 : ¬ ltO y x = true := h2 (by simp)
    rw [putL, if_neg h2]; rfl
  | y :: r, i + 1, hi, h1, h2 => by
    rw [putL, if_pos (h1 y (by simp)), ← putL_split x r i (by simpa using hi) (fun p hp => h1 p (by simp [hp])) (fun h => h2 (Nat.succ_lt_succ h))]
    rfl
theorem putL_mem {x y : OneM} : ∀ {L : List OneM}, y ∈ putL x L → y = x ∨ y ∈ L
  | [], h => by simp only [putL, List.mem_cons, List.not_mem_nil, or_false] at h; exact .inl h
  | z :: r, h => by
    rw [putL] at h
    split at h
    · rcases List.mem_cons.1 h with h | h
      · exact .inr (by simp [h])
      · exact (putL_mem h).imp (fun h => h) (fun h => by simp [h])
    · rcases List.mem_cons.1 h with h | h
      · exact .inl h
      · exact .inr h
theorem putL_len (x : OneM) : ∀ L : List OneM, (putL x L).length = L.length + 1
  | [] => rfl
  | z :: r => by
    rw [putL]
    split
    · rw [List.length_cons, putL_len x r, List.length_cons]
    · rfl
/-- What the reference's table is behind a put. -/
def putR (L : List OneM) (F : List (Int × Int)) (x : OneM) : List OneM × List (Int × Int) :=
  if 4 < (knownL (putL x L) x.cl).length then
    (raiseL (putL x L) x.cl (floorOf (raiseF F x.cl ((knownL (putL x L) x.cl).getD ((knownL (putL x L) x.cl).length - 5) 0)) x.cl), raiseF F x.cl ((knownL (putL x L) x.cl).getD ((knownL (putL x L) x.cl).length - 5) 0))
  else (putL x L, F)
theorem put_spec {hu : Nat} {c : Nat → Nat} {w : World} {g : Nat} {vL vF : Value} {L : List OneM} {F : List (Int × Int)} (x : OneM) (h : RefAt hu c w g vL vF L F) (hx : ElAt c w x) (hl : F.length ≤ 80000) (hlL : L.length ≤ 90000) :
    CallP Try.prog 34 #[.pointer (some ⟨g, 0, none⟩), .agg (oneF x).toArray] (fun r w' => ∃ c' vL' vF', (∀ k, k < w.heap.size → c' k = c k) ∧ RefAt hu c' w' g vL' vF' (putR L F x).1 (putR L F x).2 ∧ Turns (fun k => k = g) w w') w := by
  refine ⟨S34.calls _ _ _ _ ?_⟩
  unfold S34
  have hgl := h.blk.lt
  refine bx ?_
  have hX : Blk (w.alloc (.cells (Value.agg (oneF x).toArray).cells 73)) w.heap.size 73 (oneF x).toArray := Blk.new w 73 _
  have ha := (Below.refl w.heap.size w).alloc (Nat.le_refl _) (.cells (Value.agg (oneF x).toArray).cells 73)
  generalize w.alloc (.cells (Value.agg (oneF x).toArray).cells 73) = w1 at *
  have hL0 := h.rowL
  obtain ⟨A, cL, rfl, hcL, _⟩ := hL0.slice
  refine LoopP.inv2 (fun fv iv w' => ∃ i : Nat, i ≤ L.length ∧ iv = .int .i64 i ∧ (∀ y ∈ L.take i, ltO y x = true) ∧ w'.ownsRow 0 73 7 fv i ((L.take i).flatMap oneF) ∧ Fresh w.heap.size fv ∧ Blk w' w.heap.size 73 (oneF x).toArray ∧ (∀ k, fv.ownBlock = some k → k ≠ w.heap.size) ∧ Below w.heap.size w w') (fun _ iv _ => L.length - (intOf iv).toNat)
    ⟨0, by omega, rfl, by simp, ⟨by simp, .inl ⟨rfl, rfl⟩⟩, Fresh.nil _, hX, (fun k hk => by cases hk), ha⟩ ?_
  rintro fv _ w2 ⟨i, hi, rfl, hall, hown, hfr, hX2, hfx, hb2⟩ J hJ
  dsimp only [List.headD_cons, List.tail_cons]
  have h2 := h.below hb2
  have hs2 := hb2.size
  have hdr : Below w2.heap.size w2 w2.drew := (Below.refl _ _).drew
  have hb2d := below_then hb2 hdr
  have h2d := h2.below hdr
  have hX2d := hX2.below' hdr
  have hownd : w2.drew.ownsRow 0 73 7 fv i ((L.take i).flatMap oneF) := ownsRow_turns hown (Turns.of_below (F := fun _ => False) hdr) (fun _ _ h => h)
  have hL2 := h2d.rowL
  have x0 : ∀ w', Below w2.heap.size w2 w' → w'.cell? ⟨w.heap.size, 0, none⟩ = some (.int .i64 x.cl) := fun w' h => (hX2.below' h).cell 0
  have x1 : ∀ w', Below w2.heap.size w2 w' → w'.cell? ⟨w.heap.size, 1, none⟩ = some (.int .i64 x.no) := fun w' h => (hX2.below' h).cell 1
  have s0 : ∀ w', Below w2.heap.size w2 w' → w'.cell? ⟨g, 0, none⟩ = some (.slice A L.length cL) := fun w' h => (h2.blk.below' h).cell 0
  refine draw (Below w2.heap.size w2) hdr ?_
  (repeat (first | (with_reducible refine yfd m0 (by decide) ?_) | (with_reducible refine yl1 one42 s0 ?_) | (with_reducible refine ynck ?_) | (with_reducible refine nck ?_) | (with_reducible refine cdT ?_) | (with_reducible refine cdF ?_) | (with_reducible refine gdY ?_) | (with_reducible refine gdFT ?_) | (with_reducible refine gdTF ?_) | (with_reducible refine gdU ?_) | (with_reducible refine gaY ?_) | (with_reducible refine gaFT ?_) | (with_reducible refine gaTF ?_) | (with_reducible refine pickT ?_) | (with_reducible refine pickF ?_) | (with_reducible refine yi_lss_t (by omega) ?_) | (with_reducible refine yi_lss_f (by omega) ?_) | (with_reducible refine yi_add64 (by omega) ?_) | (with_reducible refine yi_sub64 (by omega) ?_) | (with_reducible refine yi_eql_t (by omega) ?_) | (with_reducible refine yi_eql_f (by omega) ?_) | (with_reducible refine yi_neq_t (by omega) ?_) | (with_reducible refine yi_neq_f (by omega) ?_) | (with_reducible refine yi_gtr_t (by omega) ?_) | (with_reducible refine yi_gtr_f (by omega) ?_) | (with_reducible refine yi_leq_t (by omega) ?_) | (with_reducible refine yi_leq_f (by omega) ?_) | (with_reducible refine yi_geq_t (by omega) ?_) | (with_reducible refine yi_geq_f (by omega) ?_) | (with_reducible refine yi_xt0 ?_) | (with_reducible refine yi_xt1 ?_) | (with_reducible refine yi_xt2 ?_) | (with_reducible refine yi_xt3 ?_) | (with_reducible refine yi_T ?_) | (with_reducible refine yi_F ?_) | (with_reducible refine yi_not ?_) | (with_reducible refine yi_and ?_) | (with_reducible refine yi_or ?_) | (with_reducible refine yi_xor ?_) | (with_reducible refine yi_shr (by omega) (by decide) ?_) | (with_reducible refine yi_shl (by omega) (by decide) ?_) | (with_reducible refine yi_quo64 (by omega) ?_) | (with_reducible refine yi_rem64 (by omega) ?_) | (with_reducible refine yi_mul64 (by omega) ?_) | (with_reducible refine yi_neg ?_) | (with_reducible refine yi_un_xor32 ?_) | (with_reducible refine yi_add ?_) | (with_reducible refine yi_sub ?_) | (with_reducible refine yi_mul ?_) | (with_reducible refine yi_quo (by decide) ?_) | (with_reducible refine yi_rem (by decide) ?_)))
  refine yln und42 ?_
  refine yi_lss_c (fun hlt => ?a) (fun hlt => ?f1)
  case' a =>
    have hi' : i < L.length := by omega
    obtain ⟨gL, cL', he, hcell⟩ := rowAt oneF_len hL2 i hi' (by decide)
    cases he
    have d0 : w2.drew.cell? ⟨gL, i * 7 + 0, none⟩ = some (.int .i64 L[i].cl) := hcell 0 _ rfl
    have d1 : w2.drew.cell? ⟨gL, i * 7 + 1, none⟩ = some (.int .i64 L[i].no) := hcell 1 _ rfl
    have s1 : ∀ w', Below w2.heap.size w2 w' → w'.cell? ⟨gL, i * 7 + 0, none⟩ = some (.int .i64 L[i].cl) := fun w' h => (h.cell (World.block_lt_of_cell? w2 _ d0)).trans d0
    have s2 : ∀ w', Below w2.heap.size w2 w' → w'.cell? ⟨gL, i * 7 + 1, none⟩ = some (.int .i64 L[i].no) := fun w' h => (h.cell (World.block_lt_of_cell? w2 _ d1)).trans d1
    (repeat (first | (with_reducible refine yfd m0 (by decide) ?_) | (with_reducible refine yl1 one42 s0 ?_) | (with_reducible refine yixG und42 sz73 i hi' ?_) | (with_reducible refine yfdG o0 (by decide) ?_) | (with_reducible refine yl1 one3 s1 ?_) | (with_reducible refine yfd o0 (by decide) ?_) | (with_reducible refine yl1 one3 x0 ?_) | (with_reducible refine ynck ?_) | (with_reducible refine nck ?_) | (with_reducible refine cdT ?_) | (with_reducible refine cdF ?_) | (with_reducible refine gdY ?_) | (with_reducible refine gdFT ?_) | (with_reducible refine gdTF ?_) | (with_reducible refine gdU ?_) | (with_reducible refine gaY ?_) | (with_reducible refine gaFT ?_) | (with_reducible refine gaTF ?_) | (with_reducible refine pickT ?_) | (with_reducible refine pickF ?_) | (with_reducible refine yi_lss_t (by omega) ?_) | (with_reducible refine yi_lss_f (by omega) ?_) | (with_reducible refine yi_add64 (by omega) ?_) | (with_reducible refine yi_sub64 (by omega) ?_) | (with_reducible refine yi_eql_t (by omega) ?_) | (with_reducible refine yi_eql_f (by omega) ?_) | (with_reducible refine yi_neq_t (by omega) ?_) | (with_reducible refine yi_neq_f (by omega) ?_) | (with_reducible refine yi_gtr_t (by omega) ?_) | (with_reducible refine yi_gtr_f (by omega) ?_) | (with_reducible refine yi_leq_t (by omega) ?_) | (with_reducible refine yi_leq_f (by omega) ?_) | (with_reducible refine yi_geq_t (by omega) ?_) | (with_reducible refine yi_geq_f (by omega) ?_) | (with_reducible refine yi_xt0 ?_) | (with_reducible refine yi_xt1 ?_) | (with_reducible refine yi_xt2 ?_) | (with_reducible refine yi_xt3 ?_) | (with_reducible refine yi_T ?_) | (with_reducible refine yi_F ?_) | (with_reducible refine yi_not ?_) | (with_reducible refine yi_and ?_) | (with_reducible refine yi_or ?_) | (with_reducible refine yi_xor ?_) | (with_reducible refine yi_shr (by omega) (by decide) ?_) | (with_reducible refine yi_shl (by omega) (by decide) ?_) | (with_reducible refine yi_quo64 (by omega) ?_) | (with_reducible refine yi_rem64 (by omega) ?_) | (with_reducible refine yi_mul64 (by omega) ?_) | (with_reducible refine yi_neg ?_) | (with_reducible refine yi_un_xor32 ?_) | (with_reducible refine yi_add ?_) | (with_reducible refine yi_sub ?_) | (with_reducible refine yi_mul ?_) | (with_reducible refine yi_quo (by decide) ?_) | (with_reducible refine yi_rem (by decide) ?_)))
    refine yi_lss_c (fun h3 => ?t1) (fun h3 => ?b)
  case' b =>
    (repeat (first | (with_reducible refine yfd m0 (by decide) ?_) | (with_reducible refine yl1 one42 s0 ?_) | (with_reducible refine yixG und42 sz73 i hi' ?_) | (with_reducible refine yfdG o0 (by decide) ?_) | (with_reducible refine yl1 one3 s1 ?_) | (with_reducible refine yfd o0 (by decide) ?_) | (with_reducible refine yl1 one3 x0 ?_) | (with_reducible refine ynck ?_) | (with_reducible refine nck ?_) | (with_reducible refine cdT ?_) | (with_reducible refine cdF ?_) | (with_reducible refine gdY ?_) | (with_reducible refine gdFT ?_) | (with_reducible refine gdTF ?_) | (with_reducible refine gdU ?_) | (with_reducible refine gaY ?_) | (with_reducible refine gaFT ?_) | (with_reducible refine gaTF ?_) | (with_reducible refine pickT ?_) | (with_reducible refine pickF ?_) | (with_reducible refine yi_lss_t (by omega) ?_) | (with_reducible refine yi_lss_f (by omega) ?_) | (with_reducible refine yi_add64 (by omega) ?_) | (with_reducible refine yi_sub64 (by omega) ?_) | (with_reducible refine yi_eql_t (by omega) ?_) | (with_reducible refine yi_eql_f (by omega) ?_) | (with_reducible refine yi_neq_t (by omega) ?_) | (with_reducible refine yi_neq_f (by omega) ?_) | (with_reducible refine yi_gtr_t (by omega) ?_) | (with_reducible refine yi_gtr_f (by omega) ?_) | (with_reducible refine yi_leq_t (by omega) ?_) | (with_reducible refine yi_leq_f (by omega) ?_) | (with_reducible refine yi_geq_t (by omega) ?_) | (with_reducible refine yi_geq_f (by omega) ?_) | (with_reducible refine yi_xt0 ?_) | (with_reducible refine yi_xt1 ?_) | (with_reducible refine yi_xt2 ?_) | (with_reducible refine yi_xt3 ?_) | (with_reducible refine yi_T ?_) | (with_reducible refine yi_F ?_) | (with_reducible refine yi_not ?_) | (with_reducible refine yi_and ?_) | (with_reducible refine yi_or ?_) | (with_reducible refine yi_xor ?_) | (with_reducible refine yi_shr (by omega) (by decide) ?_) | (with_reducible refine yi_shl (by omega) (by decide) ?_) | (with_reducible refine yi_quo64 (by omega) ?_) | (with_reducible refine yi_rem64 (by omega) ?_) | (with_reducible refine yi_mul64 (by omega) ?_) | (with_reducible refine yi_neg ?_) | (with_reducible refine yi_un_xor32 ?_) | (with_reducible refine yi_add ?_) | (with_reducible refine yi_sub ?_) | (with_reducible refine yi_mul ?_) | (with_reducible refine yi_quo (by decide) ?_) | (with_reducible refine yi_rem (by decide) ?_)))
    refine yi_eql_c (fun h4 => ?c) (fun h4 => ?f2)
  case' c =>
    (repeat (first | (with_reducible refine yfd m0 (by decide) ?_) | (with_reducible refine yl1 one42 s0 ?_) | (with_reducible refine yixG und42 sz73 i hi' ?_) | (with_reducible refine yfdG o1 (by decide) ?_) | (with_reducible refine yl1 one3 s2 ?_) | (with_reducible refine yfd o1 (by decide) ?_) | (with_reducible refine yl1 one3 x1 ?_) | (with_reducible refine ynck ?_) | (with_reducible refine nck ?_) | (with_reducible refine cdT ?_) | (with_reducible refine cdF ?_) | (with_reducible refine gdY ?_) | (with_reducible refine gdFT ?_) | (with_reducible refine gdTF ?_) | (with_reducible refine gdU ?_) | (with_reducible refine gaY ?_) | (with_reducible refine gaFT ?_) | (with_reducible refine gaTF ?_) | (with_reducible refine pickT ?_) | (with_reducible refine pickF ?_) | (with_reducible refine yi_lss_t (by omega) ?_) | (with_reducible refine yi_lss_f (by omega) ?_) | (with_reducible refine yi_add64 (by omega) ?_) | (with_reducible refine yi_sub64 (by omega) ?_) | (with_reducible refine yi_eql_t (by omega) ?_) | (with_reducible refine yi_eql_f (by omega) ?_) | (with_reducible refine yi_neq_t (by omega) ?_) | (with_reducible refine yi_neq_f (by omega) ?_) | (with_reducible refine yi_gtr_t (by omega) ?_) | (with_reducible refine yi_gtr_f (by omega) ?_) | (with_reducible refine yi_leq_t (by omega) ?_) | (with_reducible refine yi_leq_f (by omega) ?_) | (with_reducible refine yi_geq_t (by omega) ?_) | (with_reducible refine yi_geq_f (by omega) ?_) | (with_reducible refine yi_xt0 ?_) | (with_reducible refine yi_xt1 ?_) | (with_reducible refine yi_xt2 ?_) | (with_reducible refine yi_xt3 ?_) | (with_reducible refine yi_T ?_) | (with_reducible refine yi_F ?_) | (with_reducible refine yi_not ?_) | (with_reducible refine yi_and ?_) | (with_reducible refine yi_or ?_) | (with_reducible refine yi_xor ?_) | (with_reducible refine yi_shr (by omega) (by decide) ?_) | (with_reducible refine yi_shl (by omega) (by decide) ?_) | (with_reducible refine yi_quo64 (by omega) ?_) | (with_reducible refine yi_rem64 (by omega) ?_) | (with_reducible refine yi_mul64 (by omega) ?_) | (with_reducible refine yi_neg ?_) | (with_reducible refine yi_un_xor32 ?_) | (with_reducible refine yi_add ?_) | (with_reducible refine yi_sub ?_) | (with_reducible refine yi_mul ?_) | (with_reducible refine yi_quo (by decide) ?_) | (with_reducible refine yi_rem (by decide) ?_)))
    refine yi_lss_c (fun h5 => ?t2) (fun h5 => ?f3)
  case' t1 => have hlt' : ltO L[i] x = true := by simp [ltO, h3]
  case' t2 => have hlt' : ltO L[i] x = true := by simp [ltO, h4, h5]
  case t1 | t2 =>
    have c0 : w2.drew.cell? ⟨g, 0, none⟩ = some (.slice (some ⟨gL, 0, none⟩) L.length cL) := h2d.blk.cell 0
    have hE := h2d.el _ (List.getElem_mem hi')
    (repeat (first | (with_reducible refine fd m0 (by decide) ?_) | (with_reducible refine ld one42 c0 ?_) | (with_reducible refine ixG und42 sz73 i hi' ?_) | (with_reducible refine nck ?_) | (with_reducible refine cdT ?_) | (with_reducible refine cdF ?_) | (with_reducible refine gdY ?_) | (with_reducible refine gdFT ?_) | (with_reducible refine gdTF ?_) | (with_reducible refine gdU ?_) | (with_reducible refine gaY ?_) | (with_reducible refine gaFT ?_) | (with_reducible refine gaTF ?_) | (with_reducible refine pickT ?_) | (with_reducible refine pickF ?_) | (with_reducible refine bi_lss_t (by omega) ?_) | (with_reducible refine bi_lss_f (by omega) ?_) | (with_reducible refine bi_add64 (by omega) ?_) | (with_reducible refine bi_sub64 (by omega) ?_) | (with_reducible refine bi_eql_t (by omega) ?_) | (with_reducible refine bi_eql_f (by omega) ?_) | (with_reducible refine bi_neq_t (by omega) ?_) | (with_reducible refine bi_neq_f (by omega) ?_) | (with_reducible refine bi_gtr_t (by omega) ?_) | (with_reducible refine bi_gtr_f (by omega) ?_) | (with_reducible refine bi_leq_t (by omega) ?_) | (with_reducible refine bi_leq_f (by omega) ?_) | (with_reducible refine bi_geq_t (by omega) ?_) | (with_reducible refine bi_geq_f (by omega) ?_) | (with_reducible refine bi_xt0 ?_) | (with_reducible refine bi_xt1 ?_) | (with_reducible refine bi_xt2 ?_) | (with_reducible refine bi_xt3 ?_) | (with_reducible refine bi_T ?_) | (with_reducible refine bi_F ?_) | (with_reducible refine bi_not ?_) | (with_reducible refine bi_and ?_) | (with_reducible refine bi_or ?_) | (with_reducible refine bi_xor ?_) | (with_reducible refine bi_shr (by omega) (by decide) ?_) | (with_reducible refine bi_shl (by omega) (by decide) ?_) | (with_reducible refine bi_quo64 (by omega) ?_) | (with_reducible refine bi_rem64 (by omega) ?_) | (with_reducible refine bi_mul64 (by omega) ?_) | (with_reducible refine bi_neg ?_) | (with_reducible refine bi_un_xor32 ?_) | (with_reducible refine bi_add ?_) | (with_reducible refine bi_sub ?_) | (with_reducible refine bi_mul ?_) | (with_reducible refine bi_quo (by decide) ?_) | (with_reducible refine bi_rem (by decide) ?_)))
    refine ldR (us := oneF L[i]) agg73 (fun j u hu => by rw [add0]; exact hcell j u hu) (by rw [sz73]; rfl) ?_
    refine apOne und42 inf73 (by rfl) (by decide) hownd (oneF_len _) (oneF_one hE) (by omega) (by omega) (by kernel_rfl) ?_
    intro v3 w3 ho3 hbl3 hT3
    have hsd : w.heap.size ≤ w2.drew.heap.size := hs2
    (repeat (first | (with_reducible refine nck ?_) | (with_reducible refine cdT ?_) | (with_reducible refine cdF ?_) | (with_reducible refine gdY ?_) | (with_reducible refine gdFT ?_) | (with_reducible refine gdTF ?_) | (with_reducible refine gdU ?_) | (with_reducible refine gaY ?_) | (with_reducible refine gaFT ?_) | (with_reducible refine gaTF ?_) | (with_reducible refine pickT ?_) | (with_reducible refine pickF ?_) | (with_reducible refine bi_lss_t (by omega) ?_) | (with_reducible refine bi_lss_f (by omega) ?_) | (with_reducible refine bi_add64 (by omega) ?_) | (with_reducible refine bi_sub64 (by omega) ?_) | (with_reducible refine bi_eql_t (by omega) ?_) | (with_reducible refine bi_eql_f (by omega) ?_) | (with_reducible refine bi_neq_t (by omega) ?_) | (with_reducible refine bi_neq_f (by omega) ?_) | (with_reducible refine bi_gtr_t (by omega) ?_) | (with_reducible refine bi_gtr_f (by omega) ?_) | (with_reducible refine bi_leq_t (by omega) ?_) | (with_reducible refine bi_leq_f (by omega) ?_) | (with_reducible refine bi_geq_t (by omega) ?_) | (with_reducible refine bi_geq_f (by omega) ?_) | (with_reducible refine bi_xt0 ?_) | (with_reducible refine bi_xt1 ?_) | (with_reducible refine bi_xt2 ?_) | (with_reducible refine bi_xt3 ?_) | (with_reducible refine bi_T ?_) | (with_reducible refine bi_F ?_) | (with_reducible refine bi_not ?_) | (with_reducible refine bi_and ?_) | (with_reducible refine bi_or ?_) | (with_reducible refine bi_xor ?_) | (with_reducible refine bi_shr (by omega) (by decide) ?_) | (with_reducible refine bi_shl (by omega) (by decide) ?_) | (with_reducible refine bi_quo64 (by omega) ?_) | (with_reducible refine bi_rem64 (by omega) ?_) | (with_reducible refine bi_mul64 (by omega) ?_) | (with_reducible refine bi_neg ?_) | (with_reducible refine bi_un_xor32 ?_) | (with_reducible refine bi_add ?_) | (with_reducible refine bi_sub ?_) | (with_reducible refine bi_mul ?_) | (with_reducible refine bi_quo (by decide) ?_) | (with_reducible refine bi_rem (by decide) ?_)))
    refine hJ _ _ _ ⟨i + 1, by omega, by simp, fun y hy => ?_, ?_, hfr.one hsd hbl3, hX2d.turns hT3 (fun e => hfx _ e rfl), fun k hk => ?_, hb2d.trans (hT3.fresh hfr hsd)⟩ (by simp [intOf]; omega)
    · rw [List.take_succ_eq_append_getElem hi'] at hy
      rcases List.mem_append.1 hy with hy | hy
      · exact hall y hy
      · simp only [List.mem_cons, List.not_mem_nil, or_false] at hy
        subst hy; exact hlt'
    · rw [List.take_succ_eq_append_getElem hi', List.flatMap_append]
      simpa using ho3
    · rcases hbl3 with e | ⟨b, e, hb⟩
      · exact hfx k (by rw [← e]; exact hk)
      · have hbk : b = k := by rw [e] at hk; exact Option.some.inj hk
        have := hX2.lt
        have h9 : w2.heap.size ≤ b := hb
        omega
  case' f1 => have hstop : ∀ h : i < L.length, ¬ ltO L[i] x = true := fun h => absurd h (by omega)
  case' f2 => have hstop : ∀ h : i < L.length, ¬ ltO L[i] x = true := fun _ => by simp [ltO, h3, h4]
  case' f3 => have hstop : ∀ h : i < L.length, ¬ ltO L[i] x = true := fun _ => by simp [ltO, h3, h4, h5]
  all_goals
    (repeat (first | (with_reducible refine nck ?_) | (with_reducible refine cdT ?_) | (with_reducible refine cdF ?_) | (with_reducible refine gdY ?_) | (with_reducible refine gdFT ?_) | (with_reducible refine gdTF ?_) | (with_reducible refine gdU ?_) | (with_reducible refine gaY ?_) | (with_reducible refine gaFT ?_) | (with_reducible refine gaTF ?_) | (with_reducible refine pickT ?_) | (with_reducible refine pickF ?_) | (with_reducible refine bi_lss_t (by omega) ?_) | (with_reducible refine bi_lss_f (by omega) ?_) | (with_reducible refine bi_add64 (by omega) ?_) | (with_reducible refine bi_sub64 (by omega) ?_) | (with_reducible refine bi_eql_t (by omega) ?_) | (with_reducible refine bi_eql_f (by omega) ?_) | (with_reducible refine bi_neq_t (by omega) ?_) | (with_reducible refine bi_neq_f (by omega) ?_) | (with_reducible refine bi_gtr_t (by omega) ?_) | (with_reducible refine bi_gtr_f (by omega) ?_) | (with_reducible refine bi_leq_t (by omega) ?_) | (with_reducible refine bi_leq_f (by omega) ?_) | (with_reducible refine bi_geq_t (by omega) ?_) | (with_reducible refine bi_geq_f (by omega) ?_) | (with_reducible refine bi_xt0 ?_) | (with_reducible refine bi_xt1 ?_) | (with_reducible refine bi_xt2 ?_) | (with_reducible refine bi_xt3 ?_) | (with_reducible refine bi_T ?_) | (with_reducible refine bi_F ?_) | (with_reducible refine bi_not ?_) | (with_reducible refine bi_and ?_) | (with_reducible refine bi_or ?_) | (with_reducible refine bi_xor ?_) | (with_reducible refine bi_shr (by omega) (by decide) ?_) | (with_reducible refine bi_shl (by omega) (by decide) ?_) | (with_reducible refine bi_quo64 (by omega) ?_) | (with_reducible refine bi_rem64 (by omega) ?_) | (with_reducible refine bi_mul64 (by omega) ?_) | (with_reducible refine bi_neg ?_) | (with_reducible refine bi_un_xor32 ?_) | (with_reducible refine bi_add ?_) | (with_reducible refine bi_sub ?_) | (with_reducible refine bi_mul ?_) | (with_reducible refine bi_quo (by decide) ?_) | (with_reducible refine bi_rem (by decide) ?_)))
    refine ldA agg73 hX2d (by exact sz73) ?_
    refine apOne und42 inf73 (by rfl) (by decide) hownd (oneF_len _) (oneF_one hx) (by omega) (by omega) (by kernel_rfl) ?_
    intro v3 w3 ho3 hbl3 hT3
    have hsd : w.heap.size ≤ w2.drew.heap.size := hs2
    have hf3 := hfr.one hsd hbl3
    have hb3 := hb2d.trans (hT3.fresh hfr hsd)
    have hX3 := hX2d.turns hT3 (fun e => hfx _ e rfl)
    have h3' := h.below hb3
    have hs3 := hb3.size
    have hL3 := h3'.rowL
    have e0 : w3.cell? ⟨g, 0, none⟩ = some (.slice _ L.length cL) := h3'.blk.cell 0
    have hsplit := putL_split x L i hi hall hstop
    (repeat (first | (with_reducible refine fd m0 (by decide) ?_) | (with_reducible refine ld one42 e0 ?_) | (with_reducible refine nck ?_) | (with_reducible refine cdT ?_) | (with_reducible refine cdF ?_) | (with_reducible refine gdY ?_) | (with_reducible refine gdFT ?_) | (with_reducible refine gdTF ?_) | (with_reducible refine gdU ?_) | (with_reducible refine gaY ?_) | (with_reducible refine gaFT ?_) | (with_reducible refine gaTF ?_) | (with_reducible refine pickT ?_) | (with_reducible refine pickF ?_) | (with_reducible refine bi_lss_t (by omega) ?_) | (with_reducible refine bi_lss_f (by omega) ?_) | (with_reducible refine bi_add64 (by omega) ?_) | (with_reducible refine bi_sub64 (by omega) ?_) | (with_reducible refine bi_eql_t (by omega) ?_) | (with_reducible refine bi_eql_f (by omega) ?_) | (with_reducible refine bi_neq_t (by omega) ?_) | (with_reducible refine bi_neq_f (by omega) ?_) | (with_reducible refine bi_gtr_t (by omega) ?_) | (with_reducible refine bi_gtr_f (by omega) ?_) | (with_reducible refine bi_leq_t (by omega) ?_) | (with_reducible refine bi_leq_f (by omega) ?_) | (with_reducible refine bi_geq_t (by omega) ?_) | (with_reducible refine bi_geq_f (by omega) ?_) | (with_reducible refine bi_xt0 ?_) | (with_reducible refine bi_xt1 ?_) | (with_reducible refine bi_xt2 ?_) | (with_reducible refine bi_xt3 ?_) | (with_reducible refine bi_T ?_) | (with_reducible refine bi_F ?_) | (with_reducible refine bi_not ?_) | (with_reducible refine bi_and ?_) | (with_reducible refine bi_or ?_) | (with_reducible refine bi_xor ?_) | (with_reducible refine bi_shr (by omega) (by decide) ?_) | (with_reducible refine bi_shl (by omega) (by decide) ?_) | (with_reducible refine bi_quo64 (by omega) ?_) | (with_reducible refine bi_rem64 (by omega) ?_) | (with_reducible refine bi_mul64 (by omega) ?_) | (with_reducible refine bi_neg ?_) | (with_reducible refine bi_un_xor32 ?_) | (with_reducible refine bi_add ?_) | (with_reducible refine bi_sub ?_) | (with_reducible refine bi_mul ?_) | (with_reducible refine bi_quo (by decide) ?_) | (with_reducible refine bi_rem (by decide) ?_)))
    refine ofPR (pr_cut und42 sz73 (.at _ _) .no .no hi (fun _ => hi) hcL (Nat.le_refl _) (.inl rfl)) ?_
    have hcut := hL3.cutFrom oneF_len (by decide) i hi
    have hf3x : Fresh (w.heap.size + 1) v3 := fun k hk => by
      have h1 := hf3 k hk
      have h2 : k ≠ w.heap.size := by
        rcases hbl3 with e | ⟨b, e, hb⟩
        · exact hfx k (by rw [← e]; exact hk)
        · have hbk : b = k := by rw [e] at hk; exact Option.some.inj hk
          have := hX2.lt
          have h9 : w2.heap.size ≤ b := hb
          omega
      omega
    have hX3l := hX3.lt
    refine apRm (w.heap.size + 1) und42 inf73 (by rfl) (by decide) ho3 hf3x (by omega) oneF_len (fun y hy => oneF_one (h3'.el y (List.mem_of_mem_drop hy))) hcut (by rw [List.length_drop]; omega) (by rw [List.length_drop]; omega) ?_
    intro v4 w4 ho4 hf4 hb4
    have hb4' : Below w.heap.size w3 w4 := hb4.mono (by omega)
    have hb04 := hb3.trans hb4'
    have hX4 : Blk w4 w.heap.size 73 (oneF x).toArray := hX3.below hb4 (by omega)
    have h4' : RefAt hu (col c w.heap.size hu) w4 g _ vF L F := (h.re (col_lt _ _ _)).below hb04
    have hx4 : ElAt (col c w.heap.size hu) w4 x := (hx.re (col_lt _ _ _)).turns (G := fun _ => False) (Turns.of_below hb04) (fun _ h => h.elim)
    have hlen : i + 1 + (L.drop i).length = (putL x L).length := by rw [← hsplit]; simp; omega
    have hcs : ((L.take i).flatMap oneF ++ oneF x) ++ (L.drop i).flatMap oneF = (putL x L).flatMap oneF := by rw [← hsplit]; simp [List.flatMap_append]
    rw [hlen, hcs] at ho4
    have hf4' : Fresh w.heap.size v4 := fun k hk => by have := hf4 k hk; omega
    (repeat (first | (with_reducible refine fd m0 (by decide) ?_) | (with_reducible refine nck ?_) | (with_reducible refine cdT ?_) | (with_reducible refine cdF ?_) | (with_reducible refine gdY ?_) | (with_reducible refine gdFT ?_) | (with_reducible refine gdTF ?_) | (with_reducible refine gdU ?_) | (with_reducible refine gaY ?_) | (with_reducible refine gaFT ?_) | (with_reducible refine gaTF ?_) | (with_reducible refine pickT ?_) | (with_reducible refine pickF ?_) | (with_reducible refine bi_lss_t (by omega) ?_) | (with_reducible refine bi_lss_f (by omega) ?_) | (with_reducible refine bi_add64 (by omega) ?_) | (with_reducible refine bi_sub64 (by omega) ?_) | (with_reducible refine bi_eql_t (by omega) ?_) | (with_reducible refine bi_eql_f (by omega) ?_) | (with_reducible refine bi_neq_t (by omega) ?_) | (with_reducible refine bi_neq_f (by omega) ?_) | (with_reducible refine bi_gtr_t (by omega) ?_) | (with_reducible refine bi_gtr_f (by omega) ?_) | (with_reducible refine bi_leq_t (by omega) ?_) | (with_reducible refine bi_leq_f (by omega) ?_) | (with_reducible refine bi_geq_t (by omega) ?_) | (with_reducible refine bi_geq_f (by omega) ?_) | (with_reducible refine bi_xt0 ?_) | (with_reducible refine bi_xt1 ?_) | (with_reducible refine bi_xt2 ?_) | (with_reducible refine bi_xt3 ?_) | (with_reducible refine bi_T ?_) | (with_reducible refine bi_F ?_) | (with_reducible refine bi_not ?_) | (with_reducible refine bi_and ?_) | (with_reducible refine bi_or ?_) | (with_reducible refine bi_xor ?_) | (with_reducible refine bi_shr (by omega) (by decide) ?_) | (with_reducible refine bi_shl (by omega) (by decide) ?_) | (with_reducible refine bi_quo64 (by omega) ?_) | (with_reducible refine bi_rem64 (by omega) ?_) | (with_reducible refine bi_mul64 (by omega) ?_) | (with_reducible refine bi_neg ?_) | (with_reducible refine bi_un_xor32 ?_) | (with_reducible refine bi_add ?_) | (with_reducible refine bi_sub ?_) | (with_reducible refine bi_mul ?_) | (with_reducible refine bi_quo (by decide) ?_) | (with_reducible refine bi_rem (by decide) ?_)))
    refine st sz42 (own1 ho4) (by rw [h4'.blk.cell 0]; rfl) (h4'.blk.frozen 0) ?_
    obtain ⟨hR5, hT5⟩ := h4'.setL ho4 hf4' hgl (fun y hy => by
      rcases putL_mem hy with rfl | hy
      · exact hx4
      · exact h4'.el y hy)
    have hX5 := hX4.turns hT5 (by omega)
    have hT05 : Turns (fun k => k = g) w (w4.setCell ⟨g, 0, none⟩ v4) := (Turns.of_below hb04).trans (hT5.mono fun k _ e => .inl e)
    generalize w4.setCell ⟨g, 0, none⟩ v4 = w5 at *
    have y0 : w5.cell? ⟨w.heap.size, 0, none⟩ = some (.int .i64 x.cl) := hX5.cell 0
    have hs5 := hT05.size
    (repeat (first | (with_reducible refine fd o0 (by decide) ?_) | (with_reducible refine ld one3 y0 ?_) | (with_reducible refine nck ?_) | (with_reducible refine cdT ?_) | (with_reducible refine cdF ?_) | (with_reducible refine gdY ?_) | (with_reducible refine gdFT ?_) | (with_reducible refine gdTF ?_) | (with_reducible refine gdU ?_) | (with_reducible refine gaY ?_) | (with_reducible refine gaFT ?_) | (with_reducible refine gaTF ?_) | (with_reducible refine pickT ?_) | (with_reducible refine pickF ?_) | (with_reducible refine bi_lss_t (by omega) ?_) | (with_reducible refine bi_lss_f (by omega) ?_) | (with_reducible refine bi_add64 (by omega) ?_) | (with_reducible refine bi_sub64 (by omega) ?_) | (with_reducible refine bi_eql_t (by omega) ?_) | (with_reducible refine bi_eql_f (by omega) ?_) | (with_reducible refine bi_neq_t (by omega) ?_) | (with_reducible refine bi_neq_f (by omega) ?_) | (with_reducible refine bi_gtr_t (by omega) ?_) | (with_reducible refine bi_gtr_f (by omega) ?_) | (with_reducible refine bi_leq_t (by omega) ?_) | (with_reducible refine bi_leq_f (by omega) ?_) | (with_reducible refine bi_geq_t (by omega) ?_) | (with_reducible refine bi_geq_f (by omega) ?_) | (with_reducible refine bi_xt0 ?_) | (with_reducible refine bi_xt1 ?_) | (with_reducible refine bi_xt2 ?_) | (with_reducible refine bi_xt3 ?_) | (with_reducible refine bi_T ?_) | (with_reducible refine bi_F ?_) | (with_reducible refine bi_not ?_) | (with_reducible refine bi_and ?_) | (with_reducible refine bi_or ?_) | (with_reducible refine bi_xor ?_) | (with_reducible refine bi_shr (by omega) (by decide) ?_) | (with_reducible refine bi_shl (by omega) (by decide) ?_) | (with_reducible refine bi_quo64 (by omega) ?_) | (with_reducible refine bi_rem64 (by omega) ?_) | (with_reducible refine bi_mul64 (by omega) ?_) | (with_reducible refine bi_neg ?_) | (with_reducible refine bi_un_xor32 ?_) | (with_reducible refine bi_add ?_) | (with_reducible refine bi_sub ?_) | (with_reducible refine bi_mul ?_) | (with_reducible refine bi_quo (by decide) ?_) | (with_reducible refine bi_rem (by decide) ?_)))
    refine (refKnown_spec x.cl hR5 (by rw [putL_len]; omega)).mono ?_
    rintro r6 w6 ⟨ho6, hf6, hb6⟩
    have hrd6 := ho6.rd
    obtain ⟨A6, c6, rfl, _, _⟩ := hrd6.slice
    rw [List.length_map] at hrd6 ⊢
    have h6 := hR5.below hb6
    have hX6 := hX5.below' hb6
    refine ln und51 ?_
    have hkl : (knownL (putL x L) x.cl).length ≤ L.length + 1 := by
      unfold knownL
      rw [List.length_map, ← putL_len x L]
      exact List.length_filter_le _ _
    refine bi_gtr_c (fun hbig => ?_) (fun hbig => ?_)
    · have hbig' : 4 < (knownL (putL x L) x.cl).length := by omega
      have hdr6 : Below w6.heap.size w6 w6.drew := (Below.refl _ _).drew
      have z0 : ∀ w', Below w6.heap.size w6 w' → w'.cell? ⟨w.heap.size, 0, none⟩ = some (.int .i64 x.cl) := fun w' h => (hX6.below' h).cell 0
      obtain ⟨a6, rfl, hca⟩ := Rd.atI hrd6 ((knownL (putL x L) x.cl).length - 5) (by omega)
      have z1 : ∀ w', Below w6.heap.size w6 w' → w'.cell? (a6.add ((knownL (putL x L) x.cl).length - 5)) = some (.int .i64 (knownL (putL x L) x.cl)[(knownL (putL x L) x.cl).length - 5]) := fun w' h => by rw [h.cell (World.block_lt_of_cell? _ _ hca), hca]
      (repeat (first | (with_reducible refine nck ?_) | (with_reducible refine cdT ?_) | (with_reducible refine cdF ?_) | (with_reducible refine gdY ?_) | (with_reducible refine gdFT ?_) | (with_reducible refine gdTF ?_) | (with_reducible refine gdU ?_) | (with_reducible refine gaY ?_) | (with_reducible refine gaFT ?_) | (with_reducible refine gaTF ?_) | (with_reducible refine pickT ?_) | (with_reducible refine pickF ?_) | (with_reducible refine bi_lss_t (by omega) ?_) | (with_reducible refine bi_lss_f (by omega) ?_) | (with_reducible refine bi_add64 (by omega) ?_) | (with_reducible refine bi_sub64 (by omega) ?_) | (with_reducible refine bi_eql_t (by omega) ?_) | (with_reducible refine bi_eql_f (by omega) ?_) | (with_reducible refine bi_neq_t (by omega) ?_) | (with_reducible refine bi_neq_f (by omega) ?_) | (with_reducible refine bi_gtr_t (by omega) ?_) | (with_reducible refine bi_gtr_f (by omega) ?_) | (with_reducible refine bi_leq_t (by omega) ?_) | (with_reducible refine bi_leq_f (by omega) ?_) | (with_reducible refine bi_geq_t (by omega) ?_) | (with_reducible refine bi_geq_f (by omega) ?_) | (with_reducible refine bi_xt0 ?_) | (with_reducible refine bi_xt1 ?_) | (with_reducible refine bi_xt2 ?_) | (with_reducible refine bi_xt3 ?_) | (with_reducible refine bi_T ?_) | (with_reducible refine bi_F ?_) | (with_reducible refine bi_not ?_) | (with_reducible refine bi_and ?_) | (with_reducible refine bi_or ?_) | (with_reducible refine bi_xor ?_) | (with_reducible refine bi_shr (by omega) (by decide) ?_) | (with_reducible refine bi_shl (by omega) (by decide) ?_) | (with_reducible refine bi_quo64 (by omega) ?_) | (with_reducible refine bi_rem64 (by omega) ?_) | (with_reducible refine bi_mul64 (by omega) ?_) | (with_reducible refine bi_neg ?_) | (with_reducible refine bi_un_xor32 ?_) | (with_reducible refine bi_add ?_) | (with_reducible refine bi_sub ?_) | (with_reducible refine bi_mul ?_) | (with_reducible refine bi_quo (by decide) ?_) | (with_reducible refine bi_rem (by decide) ?_)))
      refine draw (Below w6.heap.size w6) hdr6 ?_
      (repeat (first | (with_reducible refine yfd o0 (by decide) ?_) | (with_reducible refine yl1 one3 z0 ?_) | (with_reducible refine ynck ?_) | (with_reducible refine nck ?_) | (with_reducible refine cdT ?_) | (with_reducible refine cdF ?_) | (with_reducible refine gdY ?_) | (with_reducible refine gdFT ?_) | (with_reducible refine gdTF ?_) | (with_reducible refine gdU ?_) | (with_reducible refine gaY ?_) | (with_reducible refine gaFT ?_) | (with_reducible refine gaTF ?_) | (with_reducible refine pickT ?_) | (with_reducible refine pickF ?_) | (with_reducible refine yi_lss_t (by omega) ?_) | (with_reducible refine yi_lss_f (by omega) ?_) | (with_reducible refine yi_add64 (by omega) ?_) | (with_reducible refine yi_sub64 (by omega) ?_) | (with_reducible refine yi_eql_t (by omega) ?_) | (with_reducible refine yi_eql_f (by omega) ?_) | (with_reducible refine yi_neq_t (by omega) ?_) | (with_reducible refine yi_neq_f (by omega) ?_) | (with_reducible refine yi_gtr_t (by omega) ?_) | (with_reducible refine yi_gtr_f (by omega) ?_) | (with_reducible refine yi_leq_t (by omega) ?_) | (with_reducible refine yi_leq_f (by omega) ?_) | (with_reducible refine yi_geq_t (by omega) ?_) | (with_reducible refine yi_geq_f (by omega) ?_) | (with_reducible refine yi_xt0 ?_) | (with_reducible refine yi_xt1 ?_) | (with_reducible refine yi_xt2 ?_) | (with_reducible refine yi_xt3 ?_) | (with_reducible refine yi_T ?_) | (with_reducible refine yi_F ?_) | (with_reducible refine yi_not ?_) | (with_reducible refine yi_and ?_) | (with_reducible refine yi_or ?_) | (with_reducible refine yi_xor ?_) | (with_reducible refine yi_shr (by omega) (by decide) ?_) | (with_reducible refine yi_shl (by omega) (by decide) ?_) | (with_reducible refine yi_quo64 (by omega) ?_) | (with_reducible refine yi_rem64 (by omega) ?_) | (with_reducible refine yi_mul64 (by omega) ?_) | (with_reducible refine yi_neg ?_) | (with_reducible refine yi_un_xor32 ?_) | (with_reducible refine yi_add ?_) | (with_reducible refine yi_sub ?_) | (with_reducible refine yi_mul ?_) | (with_reducible refine yi_quo (by decide) ?_) | (with_reducible refine yi_rem (by decide) ?_)))
      refine yln und51 ?_
      refine yi_sub64 (by omega) ?_
      rw [show (((knownL (putL x L) x.cl).length : Nat) : Int) - 5 = (((knownL (putL x L) x.cl).length - 5 : Nat) : Int) from by omega]
      refine yix1 und51 sz3 _ (by omega) ?_
      refine yl1 one3 z1 ?_
      refine (raise_spec x.cl _ (h6.below hdr6) (by omega) (by rw [putL_len]; omega)).mono ?_
      rintro _ w7 ⟨vL7, vF7, h7, hT7⟩
      refine ⟨col (col c w.heap.size hu) w6.drew.heap.size hu, vL7, vF7, fun k hk => ?_, ?_, ((hT05.then_below hb6).then_below hdr6).trans (hT7.mono fun k _ e => .inl e)⟩
      · have hs6 := hb6.size
        rw [col_lt _ _ _ k (show k < w6.drew.heap.size from by show k < w6.heap.size; omega), col_lt _ _ _ k hk]
      · rw [putR, if_pos hbig']
        have e : (knownL (putL x L) x.cl).getD ((knownL (putL x L) x.cl).length - 5) 0 = (knownL (putL x L) x.cl)[(knownL (putL x L) x.cl).length - 5] := by
          rw [List.getD_eq_getElem?_getD, List.getElem?_eq_getElem (by omega)]; rfl
        rw [e]
        exact h7
    · (repeat (first | (with_reducible refine nck ?_) | (with_reducible refine cdT ?_) | (with_reducible refine cdF ?_) | (with_reducible refine gdY ?_) | (with_reducible refine gdFT ?_) | (with_reducible refine gdTF ?_) | (with_reducible refine gdU ?_) | (with_reducible refine gaY ?_) | (with_reducible refine gaFT ?_) | (with_reducible refine gaTF ?_) | (with_reducible refine pickT ?_) | (with_reducible refine pickF ?_) | (with_reducible refine bi_lss_t (by omega) ?_) | (with_reducible refine bi_lss_f (by omega) ?_) | (with_reducible refine bi_add64 (by omega) ?_) | (with_reducible refine bi_sub64 (by omega) ?_) | (with_reducible refine bi_eql_t (by omega) ?_) | (with_reducible refine bi_eql_f (by omega) ?_) | (with_reducible refine bi_neq_t (by omega) ?_) | (with_reducible refine bi_neq_f (by omega) ?_) | (with_reducible refine bi_gtr_t (by omega) ?_) | (with_reducible refine bi_gtr_f (by omega) ?_) | (with_reducible refine bi_leq_t (by omega) ?_) | (with_reducible refine bi_leq_f (by omega) ?_) | (with_reducible refine bi_geq_t (by omega) ?_) | (with_reducible refine bi_geq_f (by omega) ?_) | (with_reducible refine bi_xt0 ?_) | (with_reducible refine bi_xt1 ?_) | (with_reducible refine bi_xt2 ?_) | (with_reducible refine bi_xt3 ?_) | (with_reducible refine bi_T ?_) | (with_reducible refine bi_F ?_) | (with_reducible refine bi_not ?_) | (with_reducible refine bi_and ?_) | (with_reducible refine bi_or ?_) | (with_reducible refine bi_xor ?_) | (with_reducible refine bi_shr (by omega) (by decide) ?_) | (with_reducible refine bi_shl (by omega) (by decide) ?_) | (with_reducible refine bi_quo64 (by omega) ?_) | (with_reducible refine bi_rem64 (by omega) ?_) | (with_reducible refine bi_mul64 (by omega) ?_) | (with_reducible refine bi_neg ?_) | (with_reducible refine bi_un_xor32 ?_) | (with_reducible refine bi_add ?_) | (with_reducible refine bi_sub ?_) | (with_reducible refine bi_mul ?_) | (with_reducible refine bi_quo (by decide) ?_) | (with_reducible refine bi_rem (by decide) ?_)))
      refine ⟨col c w.heap.size hu, v4, vF, col_lt _ _ _, ?_, hT05.then_below hb6⟩
      rw [putR, if_neg (by omega)]
      exact h6
end Go.Proofs.Ytmnaggdhkggjhaa.E
