import Derived.Test.YtonblppkidpmlaaGreatDoorMf
namespace Go.Proofs.YtonblppkidpmlaaGreatDoor.E
open Go Go.RowKit
set_option linter.unusedSimpArgs false
set_option linter.unusedVariables false

section
variable {w : World} {g : Nat} {o : OpP} {s : OpS}
theorem opk0 (h : Blk w g 26 (opC o s)) : ∀ w', Below w.heap.size w w' → w'.cell? ⟨g, 0, none⟩ = some (.int .i64 o.kind) := fun w' hb => (h.below' hb).cell 0
theorem opk1 (h : Blk w g 26 (opC o s)) : ∀ w', Below w.heap.size w w' → w'.cell? ⟨g, 1, none⟩ = some (.string o.key) := fun w' hb => (h.below' hb).cell 1
theorem opk2 (h : Blk w g 26 (opC o s)) : ∀ w', Below w.heap.size w w' → w'.cell? ⟨g, 2, none⟩ = some (.string o.to) := fun w' hb => (h.below' hb).cell 2
theorem opk3 (h : Blk w g 26 (opC o s)) : ∀ w', Below w.heap.size w w' → w'.cell? ⟨g, 3, none⟩ = some (s.rcd) := fun w' hb => (h.below' hb).cell 3
theorem opk4 (h : Blk w g 26 (opC o s)) : ∀ w', Below w.heap.size w w' → w'.cell? ⟨g, 4, none⟩ = some (s.old) := fun w' hb => (h.below' hb).cell 4
theorem opk5 (h : Blk w g 26 (opC o s)) : ∀ w', Below w.heap.size w w' → w'.cell? ⟨g, 5, none⟩ = some (.int .i64 o.id) := fun w' hb => (h.below' hb).cell 5
theorem opk6 (h : Blk w g 26 (opC o s)) : ∀ w', Below w.heap.size w w' → w'.cell? ⟨g, 6, none⟩ = some (s.fields) := fun w' hb => (h.below' hb).cell 6
theorem opk7 (h : Blk w g 26 (opC o s)) : ∀ w', Below w.heap.size w w' → w'.cell? ⟨g, 7, none⟩ = some (s.low) := fun w' hb => (h.below' hb).cell 7
theorem opk8 (h : Blk w g 26 (opC o s)) : ∀ w', Below w.heap.size w w' → w'.cell? ⟨g, 8, none⟩ = some (s.high) := fun w' hb => (h.below' hb).cell 8
theorem opk9 (h : Blk w g 26 (opC o s)) : ∀ w', Below w.heap.size w w' → w'.cell? ⟨g, 9, none⟩ = some (.int .i64 o.limit) := fun w' hb => (h.below' hb).cell 9
theorem opk10 (h : Blk w g 26 (opC o s)) : ∀ w', Below w.heap.size w w' → w'.cell? ⟨g, 10, none⟩ = some (.int .i64 o.space) := fun w' hb => (h.below' hb).cell 10
theorem opk11 (h : Blk w g 26 (opC o s)) : ∀ w', Below w.heap.size w w' → w'.cell? ⟨g, 11, none⟩ = some (.int .i64 o.node) := fun w' hb => (h.below' hb).cell 11
end
theorem of0 : fofs Tryz.prog 26 0 = some (0, 1) := by kernel_rfl
theorem of1 : fofs Tryz.prog 26 1 = some (1, 1) := by kernel_rfl
theorem of2 : fofs Tryz.prog 26 2 = some (2, 1) := by kernel_rfl
theorem of3 : fofs Tryz.prog 26 3 = some (3, 1) := by kernel_rfl
theorem of4 : fofs Tryz.prog 26 4 = some (4, 1) := by kernel_rfl
theorem of5 : fofs Tryz.prog 26 5 = some (5, 1) := by kernel_rfl
theorem of6 : fofs Tryz.prog 26 6 = some (6, 1) := by kernel_rfl
theorem of7 : fofs Tryz.prog 26 7 = some (7, 1) := by kernel_rfl
theorem of8 : fofs Tryz.prog 26 8 = some (8, 1) := by kernel_rfl
theorem of9 : fofs Tryz.prog 26 9 = some (9, 1) := by kernel_rfl
theorem of10 : fofs Tryz.prog 26 10 = some (10, 1) := by kernel_rfl
theorem of11 : fofs Tryz.prog 26 11 = some (11, 1) := by kernel_rfl
theorem aggOp : aggB Tryz.prog 26 = true := by kernel_rfl
theorem szOp : (Tryz.prog.info? 26).map (·.size) = some 12 := by kernel_rfl
def mustE (b : Bool) : Int := if b then 0 else 1
/-- What is wrong with an operation. -/
noncomputable def chk (o : OpP) : Int :=
  if o.kind = 1 then firstE [mustE (keyOk o.key), recE o.rcd]
  else if o.kind = 2 ∨ o.kind = 3 then mustE (keyOk o.key)
  else if o.kind = 4 then firstE [mustE (keyOk o.key), recE o.rcd, oldE o.old]
  else if o.kind = 5 then firstE [mustE (decide (o.key.size ≤ 16 ∧ o.to.size ≤ 16)), inE o.limit 1 64]
  else if o.kind = 6 then firstE [inE o.id 1 6, rowE o.low, rowE o.high, inE o.limit 1 64]
  else if o.kind = 7 then ckX 1 o.fields
  else if o.kind = 8 then inE o.id 1 6
  else if o.kind = 9 ∨ o.kind = 10 then firstE [inE o.space 0 1, inE o.key.size 1 100]
  else if o.kind = 11 then firstE [inE o.space 0 1, inE o.key.size 0 100, inE o.node 1 4]
  else if o.kind = 12 then 0 else 1
abbrev fnV (f g : Nat) : Value := .func (.func f) #[] #[.pointer (some ⟨g, 0, none⟩)]
theorem Ask.asks {w : World} {v : Value} {e : Int} {vs : List Value} {es : List Int} (h : Ask w v e) (hs : Asks w vs es) : Asks w (v :: vs) (e :: es) := Asks.cons h hs
section
variable {K : Value → World → Prop} {w : World}
theorem bsA2 {a b : Value} {x y : Int} (ha : Ask w a x) (hb : Ask w b y) (k : ∀ v' w', Rd w' v' [a, b] → Below w.heap.size w w' → Asks w' [a, b] [x, y] → K v' w') : LiftP Tryz.prog (Instr.buildSlice 75 2 #[(0, a), (1, b)]) K w := by
  have h1 := ha; have h2 := hb
  obtain ⟨f, g, rfl, -⟩ := h1
  obtain ⟨f2, g2, rfl, -⟩ := h2
  refine bsO (e := 69) (xs := [fnV f g, fnV f2 g2]) (by kernel_rfl) rfl (by decide) ?_
  intro v' w' ho _ hb'
  exact k v' w' ho.rd hb' ((ha.below hb').asks ((hb.below hb').asks (Asks.nil _)))
theorem bsA3 {a b c : Value} {x y z : Int} (ha : Ask w a x) (hb : Ask w b y) (hc : Ask w c z) (k : ∀ v' w', Rd w' v' [a, b, c] → Below w.heap.size w w' → Asks w' [a, b, c] [x, y, z] → K v' w') : LiftP Tryz.prog (Instr.buildSlice 75 3 #[(0, a), (1, b), (2, c)]) K w := by
  have h1 := ha; have h2 := hb; have h3 := hc
  obtain ⟨f, g, rfl, -⟩ := h1
  obtain ⟨f2, g2, rfl, -⟩ := h2
  obtain ⟨f3, g3, rfl, -⟩ := h3
  refine bsO (e := 69) (xs := [fnV f g, fnV f2 g2, fnV f3 g3]) (by kernel_rfl) rfl (by decide) ?_
  intro v' w' ho _ hb'
  exact k v' w' ho.rd hb' ((ha.below hb').asks ((hb.below hb').asks ((hc.below hb').asks (Asks.nil _))))
theorem bsA4 {a b c d : Value} {x y z u : Int} (ha : Ask w a x) (hb : Ask w b y) (hc : Ask w c z) (hd : Ask w d u) (k : ∀ v' w', Rd w' v' [a, b, c, d] → Below w.heap.size w w' → Asks w' [a, b, c, d] [x, y, z, u] → K v' w') : LiftP Tryz.prog (Instr.buildSlice 75 4 #[(0, a), (1, b), (2, c), (3, d)]) K w := by
  have h1 := ha; have h2 := hb; have h3 := hc; have h4 := hd
  obtain ⟨f, g, rfl, -⟩ := h1
  obtain ⟨f2, g2, rfl, -⟩ := h2
  obtain ⟨f3, g3, rfl, -⟩ := h3
  obtain ⟨f4, g4, rfl, -⟩ := h4
  refine bsO (e := 69) (xs := [fnV f g, fnV f2 g2, fnV f3 g3, fnV f4 g4]) (by kernel_rfl) rfl (by decide) ?_
  intro v' w' ho _ hb'
  exact k v' w' ho.rd hb' ((ha.below hb').asks ((hb.below hb').asks ((hc.below hb').asks ((hd.below hb').asks (Asks.nil _)))))
end
theorem ylns {P : Program} {K : Value → World → Prop} {S : World → Prop} {w : World} {t ty : TypeId} (h : P.underlying t = some .string) {cs : Array Bool} {s : ByteArray} (k : K (.int .i64 s.size) w) : YieldN P S (builtin .len #[t] ty cs #[.string s]) K w :=
  yldN (v := .int .i64 s.size) (fun w' _ => by simp [builtin, run_len_string w' t ty s h, goInt]) k
theorem Check11 (o : OpP) (s : OpS) (w : World) (h : OpAt w o s) (hm : GMx w) : CallP Tryz.prog 11 #[.agg (opC o s)] (fun r w' => r = .int .i64 (chk o) ∧ Below w.heap.size w w') w := by
  refine ⟨S11.calls _ _ _ ?_⟩
  unfold S11
  refine bxB ?_
  intro g w1 hg hB hb1
  have h1 := h.below hb1
  have hdr : Below w1.heap.size w1 w1.drew := (Below.refl _ _).drew
  refine draw (Below w1.heap.size w1) hdr ?_
  generalize w1.drew = w2 at *
  (repeat with_reducible first|refine yfd of1 (by decide) ?_|refine yl1 one9 (opk1 hB) ?_|refine yfd of5 (by decide) ?_|refine yl1 one3 (opk5 hB) ?_|refine yfd of9 (by decide) ?_|refine yl1 one3 (opk9 hB) ?_|refine yfd of10 (by decide) ?_|refine yl1 one3 (opk10 hB) ?_)
  refine act ?_
  refine (key_spec o.key w2).mono ?_
  rintro _ w2 ⟨rfl, rfl⟩
  refine ⟨_, hdr, fun _ h => h, ?_⟩
  refine act ?_
  refine (must_spec _ w2).mono ?_
  rintro a1 w3 ⟨ha1, hb3⟩
  have hc3 := below_then hdr hb3
  refine ⟨_, hc3, fun _ h => h, ?_⟩
  refine act ?_
  refine (within_spec _ _ _ w3).mono ?_
  rintro a2 w4 ⟨ha2, hb4⟩
  have hc4 := below_then hc3 hb4
  refine ⟨_, hc4, fun _ h => h, ?_⟩
  refine act ?_
  refine (within_spec _ _ _ w4).mono ?_
  rintro a3 w5 ⟨ha3, hb5⟩
  have hc5 := below_then hc4 hb5
  refine ⟨_, hc5, fun _ h => h, ?_⟩
  refine act ?_
  refine (within_spec _ _ _ w5).mono ?_
  rintro a4 w6 ⟨ha4, hb6⟩
  have hc6 := below_then hc5 hb6
  refine ⟨_, hc6, fun _ h => h, ?_⟩
  have ha3 := ha3.below hb6
  have ha2 := (ha2.below hb5).below hb6
  have ha1 := ((ha1.below hb4).below hb5).below hb6
  have hc := below_then hb1 hc6
  have hm6 := hm.below hc
  have hA := h.below hc
  clear hb3 hb4 hb5 hb6 hc3 hc4 hc5 hdr
  (repeat with_reducible first|refine fd of0 (by decide) ?_|refine ld one3 (opk0 hB _ hc6) ?_)
  have fin : ∀ {e : Int} {w' : World}, chk o = e → Below w6.heap.size w6 w' → (Value.int .i64 e = .int .i64 (chk o) ∧ Below w.heap.size w w') := fun he hb => ⟨by rw [he], below_then hc hb⟩
  refine bi_eql_c (fun k1 => ?_) (fun k1 => ?_)
  · (repeat with_reducible first|refine fd of3 (by decide) ?_|refine ld oneRec (opk3 hB _ hc6) ?_|refine z_b ?_)
    refine (rec_spec _ _ w6 hA.rcd).mono ?_
    rintro a5 w7 ⟨ha5, hb7⟩
    refine bsA2 (ha1.below hb7) ha5 ?_
    intro v8 w8 hv8 hb8 has
    refine (firstAsk v8 _ _ w8 hv8 has).mono ?_
    rintro _ w9 ⟨rfl, hb9⟩
    exact fin (by unfold chk; rw [if_pos k1]; rfl) (below_then (below_then hb7 hb8) hb9)
  (repeat with_reducible first|refine z_c ?_)
  refine JoinP.cut (fun vs w' => vs = [.bool (decide (o.kind = 2 ∨ o.kind = 3))] ∧ w6 = w') ?_ ?_
  · intro J hJ
    refine bi_eql_c (fun k2 => ?_) (fun k2 => ?_)
    · (repeat with_reducible first|refine z_b ?_)
      exact hJ _ _ ⟨by rw [decide_eq_true (.inl k2)], rfl⟩
    · (repeat with_reducible first|refine z_c ?_)
      refine bi_eql ?_
      refine hJ _ _ ⟨?_, rfl⟩
      congr 2
      rw [decide_eq_decide]
      exact ⟨.inr, fun h => h.resolve_left k2⟩
  rintro _ _ ⟨rfl, rfl⟩
  dsimp only [List.headD_cons, List.tail_cons]
  refine CondP.dec (fun k2 => ?_) (fun k2 => ?_)
  · refine ha1.call ?_
    intro w7 hb7
    exact fin (by unfold chk; rw [if_neg k1, if_pos k2]; rfl) hb7
  refine bi_eql_c (fun k4 => ?_) (fun k4 => ?_)
  · (repeat with_reducible first|refine z_b ?_)
    have hdr : Below w6.heap.size w6 w6.drew := (Below.refl _ _).drew
    have r3 : ∀ w', Below w6.heap.size w6 w' → w'.cell? ⟨g, 3, none⟩ = some s.rcd := fun w' hb => opk3 hB _ (below_then hc6 hb)
    have r4 : ∀ w', Below w6.heap.size w6 w' → w'.cell? ⟨g, 4, none⟩ = some s.old := fun w' hb => opk4 hB _ (below_then hc6 hb)
    refine draw (Below w6.heap.size w6) hdr ?_
    (repeat with_reducible first|refine yfd of3 (by decide) ?_|refine yl1 oneRec r3 ?_|refine yfd of4 (by decide) ?_|refine yl1 oneRec r4 ?_)
    refine act ?_
    refine (rec_spec _ _ _ (keeps_Vals _ _ _ _ hdr hA.rcd)).mono ?_
    rintro a5 w7 ⟨ha5, hb7⟩
    have hb7' := below_then hdr hb7
    refine ⟨_, hb7', fun _ h => h, ?_⟩
    refine act ?_
    refine (old_spec _ _ w7 (keeps_Vals _ _ _ _ hb7' hA.old)).mono ?_
    rintro a6 w8 ⟨ha6, hb8⟩
    have hb8' := below_then hb7' hb8
    refine ⟨_, hb8', fun _ h => h, ?_⟩
    refine act ?_
    refine bsA3 (ha1.below hb8') (ha5.below hb8) ha6 ?_
    intro v9 w9 hv9 hb9 has
    have hb9' := below_then hb8' hb9
    refine ⟨_, hb9', fun _ h => h, ?_⟩
    refine act ?_
    refine (firstAsk v9 _ _ w9 hv9 has).mono ?_
    rintro _ w10 ⟨rfl, hb10⟩
    refine ⟨_, below_then hb9' hb10, fun _ h => h, ?_⟩
    exact fin (by unfold chk; rw [if_neg k1, if_neg k2, if_pos k4]; rfl) (below_then hb9' hb10)
  (repeat with_reducible first|refine z_c ?_)
  refine bi_eql_c (fun k5 => ?_) (fun k5 => ?_)
  · (repeat with_reducible first|refine fd of1 (by decide) ?_|refine ld one9 (opk1 hB _ hc6) ?_|refine z_b ?_)
    refine lns und9 ?_
    have go : ∀ {R : Value → World → Prop} (b : Bool), b = decide (o.key.size ≤ 16 ∧ o.to.size ≤ 16) → (∀ w', Below w6.heap.size w6 w' → R (.int .i64 (chk o)) w') →
        CallP Tryz.prog 32 #[.bool b] (fun v w => LiftP Tryz.prog (Instr.buildSlice 75 2 #[(0, v), (1, a3)]) (fun v w => CallP Tryz.prog 36 #[v] (fun v w => R v w) w) w) w6 := fun b hb hR => by
      refine (must_spec b w6).mono ?_
      rintro a5 w7 ⟨ha5, hb7⟩
      refine bsA2 ha5 (ha3.below hb7) ?_
      intro v8 w8 hv8 hb8 has
      refine (firstAsk v8 _ _ w8 hv8 has).mono ?_
      rintro _ w9 ⟨rfl, hb9⟩
      have e : chk o = firstE [if b = true then 0 else 1, inE o.limit 1 64] := by unfold chk; rw [if_neg k1, if_neg k2, if_neg k4, if_pos k5, ← hb]; rfl
      rw [← e]
      exact hR _ (below_then (below_then hb7 hb8) hb9)
    refine bi_leq_c (fun h1 => ?_) (fun h1 => ?_)
    · (repeat with_reducible first|refine fd of2 (by decide) ?_|refine ld one9 (opk2 hB _ hc6) ?_|refine z_d ?_)
      refine lns und9 ?_
      (repeat with_reducible first|refine z_d ?_)
      refine bi_leq ?_
      (repeat with_reducible first|refine z_k ?_)
      refine go _ ?_ fun w' hb => fin rfl hb
      rw [decide_eq_decide]
      omega
    · (repeat with_reducible first|refine z_e ?_|refine z_l ?_)
      refine go _ ?_ fun w' hb => fin rfl hb
      rw [decide_eq_false (by omega)]
  (repeat with_reducible first|refine z_c ?_)
  refine bi_eql_c (fun k6 => ?_) (fun k6 => ?_)
  · (repeat with_reducible first|refine z_b ?_)
    have hdr : Below w6.heap.size w6 w6.drew := (Below.refl _ _).drew
    have r7 : ∀ w', Below w6.heap.size w6 w' → w'.cell? ⟨g, 7, none⟩ = some s.low := fun w' hb => opk7 hB _ (below_then hc6 hb)
    have r8 : ∀ w', Below w6.heap.size w6 w' → w'.cell? ⟨g, 8, none⟩ = some s.high := fun w' hb => opk8 hB _ (below_then hc6 hb)
    refine draw (Below w6.heap.size w6) hdr ?_
    (repeat with_reducible first|refine yfd of7 (by decide) ?_|refine yl1 oneVs r7 ?_|refine yfd of8 (by decide) ?_|refine yl1 oneVs r8 ?_)
    refine act ?_
    refine (vals_spec _ _ _ (keeps_Vals _ _ _ _ hdr hA.low) (hm6.below hdr)).mono ?_
    rintro a5 w7 ⟨ha5, hb7⟩
    have hb7' := below_then hdr hb7
    refine ⟨_, hb7', fun _ h => h, ?_⟩
    refine act ?_
    refine (vals_spec _ _ w7 (keeps_Vals _ _ _ _ hb7' hA.high) (hm6.below hb7')).mono ?_
    rintro a6 w8 ⟨ha6, hb8⟩
    have hb8' := below_then hb7' hb8
    refine ⟨_, hb8', fun _ h => h, ?_⟩
    refine act ?_
    refine bsA4 (ha2.below hb8') (ha5.below hb8) ha6 (ha3.below hb8') ?_
    intro v9 w9 hv9 hb9 has
    have hb9' := below_then hb8' hb9
    refine ⟨_, hb9', fun _ h => h, ?_⟩
    refine act ?_
    refine (firstAsk v9 _ _ w9 hv9 has).mono ?_
    rintro _ w10 ⟨rfl, hb10⟩
    refine ⟨_, below_then hb9' hb10, fun _ h => h, ?_⟩
    exact fin (by unfold chk; rw [if_neg k1, if_neg k2, if_neg k4, if_neg k5, if_pos k6]) (below_then hb9' hb10)
  (repeat with_reducible first|refine z_c ?_)
  refine bi_eql_c (fun k7 => ?_) (fun k7 => ?_)
  · (repeat with_reducible first|refine fd of6 (by decide) ?_|refine ld oneIs (opk6 hB _ hc6) ?_|refine z_b ?_)
    have hfr := (ints_rd hA.fields).1
    obtain ⟨A, c, he, _⟩ := hfr.slice
    rw [he] at hfr ⊢
    refine bd (cells := #[.int .i64 1, .slice A (iV o.fields).length c]) (by kernel_rfl) ?_
    refine (CheckIndex27 1 _ _ w6 hfr).mono ?_
    rintro _ w7 ⟨rfl, hb7⟩
    exact fin (by unfold chk; rw [if_neg k1, if_neg k2, if_neg k4, if_neg k5, if_neg k6, if_pos k7]) hb7
  (repeat with_reducible first|refine z_c ?_)
  refine bi_eql_c (fun k8 => ?_) (fun k8 => ?_)
  · (repeat with_reducible first|refine z_b ?_)
    refine ha2.call ?_
    intro w7 hb7
    exact fin (by unfold chk; rw [if_neg k1, if_neg k2, if_neg k4, if_neg k5, if_neg k6, if_neg k7, if_pos k8]) hb7
  (repeat with_reducible first|refine z_c ?_)
  refine JoinP.cut (fun vs w' => vs = [.bool (decide (o.kind = 9 ∨ o.kind = 10))] ∧ w6 = w') ?_ ?_
  · intro J hJ
    refine bi_eql_c (fun k9 => ?_) (fun k9 => ?_)
    · (repeat with_reducible first|refine z_b ?_)
      exact hJ _ _ ⟨by rw [decide_eq_true (.inl k9)], rfl⟩
    · (repeat with_reducible first|refine z_c ?_)
      refine bi_eql ?_
      refine hJ _ _ ⟨?_, rfl⟩
      congr 2
      rw [decide_eq_decide]
      exact ⟨.inr, fun h => h.resolve_left k9⟩
  rintro _ _ ⟨rfl, rfl⟩
  dsimp only [List.headD_cons, List.tail_cons]
  refine CondP.dec (fun k9 => ?_) (fun k9 => ?_)
  · (repeat with_reducible first|refine fd of1 (by decide) ?_|refine ld one9 (opk1 hB _ hc6) ?_)
    refine lns und9 ?_
    refine (within_spec _ _ _ w6).mono ?_
    rintro a5 w7 ⟨ha5, hb7⟩
    refine bsA2 (ha4.below hb7) ha5 ?_
    intro v8 w8 hv8 hb8 has
    refine (firstAsk v8 _ _ w8 hv8 has).mono ?_
    rintro _ w9 ⟨rfl, hb9⟩
    exact fin (by unfold chk; rw [if_neg k1, if_neg k2, if_neg k4, if_neg k5, if_neg k6, if_neg k7, if_neg k8, if_pos k9]) (below_then (below_then hb7 hb8) hb9)
  refine bi_eql_c (fun k11 => ?_) (fun k11 => ?_)
  · (repeat with_reducible first|refine z_b ?_)
    have hdr : Below w6.heap.size w6 w6.drew := (Below.refl _ _).drew
    have r1 : ∀ w', Below w6.heap.size w6 w' → w'.cell? ⟨g, 1, none⟩ = some (.string o.key) := fun w' hb => opk1 hB _ (below_then hc6 hb)
    have r11 : ∀ w', Below w6.heap.size w6 w' → w'.cell? ⟨g, 11, none⟩ = some (.int .i64 o.node) := fun w' hb => opk11 hB _ (below_then hc6 hb)
    refine draw (Below w6.heap.size w6) hdr ?_
    (repeat with_reducible first|refine yfd of1 (by decide) ?_|refine yl1 one9 r1 ?_|refine ylns und9 ?_|refine yfd of11 (by decide) ?_|refine yl1 one3 r11 ?_)
    refine act ?_
    refine (within_spec _ _ _ _).mono ?_
    rintro a5 w7 ⟨ha5, hb7⟩
    have hb7' := below_then hdr hb7
    refine ⟨_, hb7', fun _ h => h, ?_⟩
    refine act ?_
    refine (within_spec _ _ _ w7).mono ?_
    rintro a6 w8 ⟨ha6, hb8⟩
    have hb8' := below_then hb7' hb8
    refine ⟨_, hb8', fun _ h => h, ?_⟩
    refine act ?_
    refine bsA3 (ha4.below hb8') (ha5.below hb8) ha6 ?_
    intro v9 w9 hv9 hb9 has
    have hb9' := below_then hb8' hb9
    refine ⟨_, hb9', fun _ h => h, ?_⟩
    refine act ?_
    refine (firstAsk v9 _ _ w9 hv9 has).mono ?_
    rintro _ w10 ⟨rfl, hb10⟩
    refine ⟨_, below_then hb9' hb10, fun _ h => h, ?_⟩
    exact fin (by unfold chk; rw [if_neg k1, if_neg k2, if_neg k4, if_neg k5, if_neg k6, if_neg k7, if_neg k8, if_neg k9, if_pos k11]) (below_then hb9' hb10)
  (repeat with_reducible first|refine z_c ?_)
  refine bi_eql_c (fun k12 => ?_) (fun k12 => ?_)
  · (repeat with_reducible first|refine z_b ?_)
    exact fin (by unfold chk; rw [if_neg k1, if_neg k2, if_neg k4, if_neg k5, if_neg k6, if_neg k7, if_neg k8, if_neg k9, if_neg k11, if_pos k12]) (Below.refl _ _)
  · (repeat with_reducible first|refine z_c ?_)
    exact fin (by unfold chk; rw [if_neg k1, if_neg k2, if_neg k4, if_neg k5, if_neg k6, if_neg k7, if_neg k8, if_neg k9, if_neg k11, if_neg k12]) (Below.refl _ _)
end Go.Proofs.YtonblppkidpmlaaGreatDoor.E
