import Derived.Test.YtadbpelpbaikiaaM6
import Derived.ArgAppend
import Derived.Test.YtadbpelpbaikiaaM1
import Derived.Test.YtadbpelpbaikiaaProg
import Derived.KernelRfl
import Derived.Test.YtadbpelpbaikiaaM3
namespace Go.Proofs.Ytadbpelpbaikiaa.E
open Go Go.RowKit
set_option linter.unusedSimpArgs false
set_option linter.unusedVariables false

/-- u reads as p, without room behind; its cells lie behind B and may be written. -/
def Elem (w : World) (B : Nat) (u : Value) (p : List UInt8) : Prop :=
  RdB w u p ∧ ∃ A, u = .slice A p.length p.length ∧ ∀ j, j < p.length → ∃ g, A = some ⟨g, 0, none⟩ ∧ B ≤ g ∧ w.frozen? ⟨g, j, none⟩ = false
theorem Elem.grown {w w' : World} {B : Nat} {u : Value} {p : List UInt8} {row : Option Nat} (h : Elem w B u p) (hg : w.grownBy w' row) (hne : p = [] ∨ u.ownBlock ≠ row) : Elem w' B u p := by
  obtain ⟨h1, A, rfl, h2⟩ := h
  refine ⟨Rd.grown h1 hg (hne.imp (fun h => by rw [h]; rfl) id), A, rfl, fun j hj => ?_⟩
  obtain ⟨g, rfl, h3, h4⟩ := h2 j hj
  refine ⟨g, rfl, h3, ?_⟩
  obtain ⟨a, ha, hc⟩ := RdB.at h1 j hj
  cases ha
  rw [add0, Nat.zero_add] at hc
  have hgr : some g ≠ row := by
    rcases hne with h | h
    · rw [h] at hj; simp at hj
    · exact h
  have e := World.frozen?_of_block (w := w) (w' := w') (a := ⟨g, j, none⟩) (hg.block g (World.block_lt_of_cell? w _ hc) hgr)
  rw [e]
  exact h4
theorem Elem.below {w w' : World} {B : Nat} {u : Value} {p : List UInt8} (h : Elem w B u p) (hb : Below w.heap.size w w') : Elem w' B u p :=
  h.grown (row := none) ⟨hb.os, hb.tape, hb.output, hb.size, fun k hk _ => hb.block k hk⟩ (by
    by_cases hp : p = []
    · exact .inl hp
    · obtain ⟨j, hj, _⟩ := Rd.block_lt h.1 (by simpa using hp)
      exact .inr (by rw [hj]; simp))
def RowE (w : World) (B : Nat) (l : Value) (acc : List (List UInt8)) : Prop :=
  ∃ xs, Own 22 w l xs ∧ xs.length = acc.length ∧ (∀ u ∈ xs, u.oneCell' = true) ∧ ∀ i (h1 : i < xs.length) (h2 : i < acc.length), Elem w B xs[i] acc[i] ∧ (acc[i] = [] ∨ xs[i].ownBlock ≠ l.ownBlock)
theorem RowE.nil (w : World) (B : Nat) : RowE w B (.slice none 0 0) [] := ⟨[], Own.nil 22 w, rfl, by simp, fun i h1 => by simp at h1⟩
theorem RowE.below {w w' : World} {B : Nat} {l : Value} {acc : List (List UInt8)} (h : RowE w B l acc) (hb : Below w.heap.size w w') : RowE w' B l acc := by
  obtain ⟨xs, h1, h2, h3, h4⟩ := h
  exact ⟨xs, h1.below hb, h2, h3, fun i g1 g2 => ⟨(h4 i g1 g2).1.below hb, (h4 i g1 g2).2⟩⟩
theorem RowE.rd {w : World} {B : Nat} {l : Value} {acc : List (List UInt8)} (h : RowE w B l acc) : RdSS w l acc := by
  obtain ⟨xs, h1, h2, _, h4⟩ := h
  exact RdSS.of h1.rd h2 fun i g1 g2 => (h4 i g1 g2).1.1
theorem RowE.lt {w : World} {B : Nat} {l : Value} {acc : List (List UInt8)} (h : RowE w B l acc) {k : Nat} (hk : l.ownBlock = some k) : k < w.heap.size := by
  obtain ⟨xs, h1, _⟩ := h
  exact h1.lt hk
theorem apE {K : Value → World → Prop} {w : World} {t ty : TypeId} {cs : Array Bool} {z : Value} {bytes : Nat} (B : Nat) (ht : Try.prog.underlying t = some (.slice 22)) (hinfo : (Try.prog.info? 22).map (fun i => (i.zero, i.size, i.bytes)) = some (some z, 1, bytes)) (hz : z.cells.size = 1) (hb0 : 0 < bytes)
    {l x u : Value} {acc : List (List UInt8)} {p : List UInt8} (hl : RowE w B l acc) (hf : Fresh B l) (hB : B ≤ w.heap.size) (hx : Rd w x [u]) (hu : Elem w B u p) (hne : p = [] ∨ u.ownBlock ≠ l.ownBlock) (hbd : (acc.length + 1) * bytes ≤ 140737488355328)
    (k : ∀ v' w', RowE w' B v' (acc ++ [p]) → Fresh B v' → Below B w w' → K v' w') : NextP Try.prog (builtin .append #[t, t] ty cs #[l, x]) K w := by
  obtain ⟨xs, h1, h2, h3, h4⟩ := hl
  have h1u : u.oneCell' = true := by obtain ⟨_, A, rfl, _⟩ := hu; rfl
  refine ap ht hinfo hz hb0 h1 hx (by simpa using h1u) (by rw [h2]; exact hbd) fun v' w' ho hg hbl => k v' w' ?_ (fun j hj => by rcases hbl with h | h <;> rw [h] at hj; exact hf j hj; cases hj; exact hB) ((Below.refl B w).grown hg hB (fun j hj => hf j hj))
  have old : ∀ (y : Value) (q : List UInt8), Elem w B y q → (q = [] ∨ y.ownBlock ≠ l.ownBlock) → Elem w' B y q ∧ (q = [] ∨ y.ownBlock ≠ v'.ownBlock) := by
    intro y q hr hn
    refine ⟨hr.grown hg hn, ?_⟩
    by_cases hq : q = []
    · exact .inl hq
    refine .inr fun he => ?_
    obtain ⟨j, hj, hlt⟩ := Rd.block_lt hr.1 (by simpa using hq)
    rcases hbl with h | h
    · exact (hn.resolve_left hq) (he.trans h)
    · rw [h, hj] at he
      cases he
      omega
  refine ⟨xs ++ [u], ho, by simp [h2], ?_, ?_⟩
  · intro y hy
    rcases List.mem_append.1 hy with h | h
    · exact h3 y h
    · simp at h; rw [h]; exact h1u
  · intro i g1 g2
    by_cases hi : i < xs.length
    · rw [List.getElem_append_left hi, List.getElem_append_left (by omega)]
      exact old _ _ (h4 i hi (by omega)).1 (h4 i hi (by omega)).2
    · have hil : i = xs.length := by simp at g1; omega
      subst hil
      have e2 : (acc ++ [p])[xs.length] = p := by rw [List.getElem_append_right (by omega)]; simp [h2]
      rw [List.getElem_append_right (Nat.le_refl _)]
      simp only [Nat.sub_self, List.getElem_cons_zero]
      rw [e2]
      exact old u p hu hne
theorem Clone_own (v : Value) (bs : List UInt8) (w : World) (hv : RdB w v bs) (hl : bs.length ≤ 1000000000) :
    CallP Try.prog 28 #[v] (fun r w' => Own 5 w' r (bs.map u8) ∧ Fresh w.heap.size r ∧ Below w.heap.size w w') w := by
  obtain ⟨A, c, rfl, hc1, hc2, hcell⟩ := hv.slice
  refine ⟨S28.calls _ _ _ ?_⟩
  unfold S28
  refine ofPR (pr_snil und23) ?_
  cases A with
  | none =>
    have hb : bs = [] := by
      cases bs with
      | nil => rfl
      | cons b r => obtain ⟨a, h, _⟩ := hcell 0 (by simp); cases h
    subst hb
    simp only [Option.isNone_none]
    (repeat with_reducible first|refine z_b ?_)
    exact ⟨Own.nil 5 w, Fresh.nil _, Below.refl _ w⟩
  | some a =>
    simp only [Option.isNone_some]
    (repeat with_reducible first|refine z_c ?_)
    refine bs0 und23 sz5 ?_
    have ha : Below w.heap.size w (w.alloc (.cells #[] 5)) := (Below.refl _ _).alloc (Nat.le_refl _) _
    refine apF w.heap.size und23 inf5 (by rfl) (by decide) (Own.lit0 w 5) (Fresh.new (Nat.le_refl _) 0 0) ha.size (hv.below ha) (u8_one bs) (by simp; omega) ?_
    intro v2 w2 ho2 hf2 hb2 _
    exact ⟨by simpa using ho2, hf2, ha.trans hb2⟩
theorem Clip_elem (v : Value) (bs : List UInt8) (B : Nat) (w : World) (hv : Own 5 w v (bs.map u8)) (hf : Fresh B v) :
    CallP Try.prog 27 #[v] (fun r w' => Elem w B r bs ∧ r.ownBlock = v.ownBlock ∧ w = w') w := by
  obtain ⟨A, c, rfl⟩ := hv.slice
  simp only [List.length_map] at hv hf ⊢
  have hr := hv.rdB
  have hc1 : bs.length ≤ c := by
    obtain ⟨A1, c1, he, h1, _⟩ := hr.slice
    simp only [Value.slice.injEq] at he
    omega
  refine ⟨S27.calls _ _ _ ?_⟩
  unfold S27
  refine ln und23 ?_
  refine ln und23 ?_
  refine ofPR (pr_cut und23 sz5 .no (.at _ _) (.at _ _) (Nat.zero_le _) (fun h => by cases h) (Nat.le_refl _) hc1 (.inr (by simp))) ?_
  have h0 := sliced_rd hr (l := 0) (k := bs.length) (m := bs.length) (Nat.zero_le _) (by simp) (Nat.le_refl _) hc1
  rw [List.drop_zero, List.take_of_length_le (by simp)] at h0
  have e : sliced A 0 bs.length bs.length 1 = .slice A bs.length bs.length := by
    simp only [sliced, Nat.sub_zero]
    congr 1
    split
    · rfl
    · cases A <;> simp [Addr.add_zero']
  simp only [List.headD_cons]
  rw [e] at h0 ⊢
  refine ⟨⟨h0, A, rfl, fun j hj => ?_⟩, by cases A <;> rfl, trivial⟩
  obtain ⟨g, rfl, h1, h2⟩ := hv.at j (by simpa using hj)
  rw [add0, Nat.zero_add] at h2
  exact ⟨g, rfl, hf g rfl, h2⟩
theorem Scan_elem (v : Value) (bs : List UInt8) (w : World) (hv : RdB w v bs) (hl : bs.length ≤ 1000000) :
    CallP Try.prog 26 #[v] (fun r w' => ∃ l, r = .tuple #[l, .int .i64 (Frame.scan bs).2] ∧ RowE w' w.heap.size l (Frame.scan bs).1 ∧ Fresh w.heap.size l ∧ Below w.heap.size w w') w := by
  obtain ⟨A, c, rfl, hc1, hc2, hcell⟩ := hv.slice
  refine ⟨S26.calls _ _ _ ?_⟩
  unfold S26
  refine LoopP.inv2 (fun l i w' => ∃ (n : Nat) (acc : List (List UInt8)), n ≤ bs.length ∧ i = .int .i64 n ∧ acc.length ≤ n ∧ Frame.scan bs = (acc ++ (Frame.scan (bs.drop n)).1, n + (Frame.scan (bs.drop n)).2) ∧ RowE w' w.heap.size l acc ∧ Fresh w.heap.size l ∧ Below w.heap.size w w') (fun _ i _ => bs.length - (intOf i).toNat)
    ⟨0, [], by omega, rfl, by simp, by simp, RowE.nil w _, Fresh.nil _, Below.refl _ w⟩ ?_
  rintro l _ w1 ⟨n, acc, hn, rfl, hacc, hscan, hrow, hf, hb1⟩ J hJ
  dsimp only [List.headD_cons, List.tail_cons]
  have hv1 := hv.below hb1
  refine ctB und23 sz5 hv1 (.at _ _) .no hn (Nat.le_refl _) ?_
  intro v2 hr2
  rw [List.take_length] at hr2
  refine (view_spec v2 (bs.drop n) w1 hr2 (by rw [List.length_drop]; omega)).mono ?_
  rintro _ w2 ⟨x, rfl, hrx, hb2⟩
  have hb2' := below_then hb1 hb2
  (repeat with_reducible first|refine z_A ?_|refine z_B ?_|refine z_C ?_)
  (first | refine bi_lss_c (fun h => ?_) (fun h => ?_) | refine bi_eql_c (fun h => ?_) (fun h => ?_) | refine bi_neq_c (fun h => ?_) (fun h => ?_) | refine bi_gtr_c (fun h => ?_) (fun h => ?_) | refine bi_leq_c (fun h => ?_) (fun h => ?_) | refine bi_geq_c (fun h => ?_) (fun h => ?_) | refine bi_seql_c (fun h => ?_) (fun h => ?_) | refine bi_sneq_c (fun h => ?_) (fun h => ?_))
  · (repeat with_reducible first|refine z_b ?_)
    rw [Frame.scan_end (bs.drop n) (by omega)] at hscan
    rw [hscan]
    exact ⟨l, rfl, by simpa using hrow.below hb2, hf, hb2'⟩
  have hok : (Frame.view (bs.drop n)).2.2 = 0 := by omega
  have hvw := Frame.view_ok _ hok
  rw [List.length_drop] at hvw
  rw [Frame.scan_ok _ hok, List.drop_drop] at hscan
  have hpl : (Frame.view (bs.drop n)).1.length ≤ 1000000 := by
    rw [hvw.2.2.1, Frame.part, List.length_take, List.length_drop, List.length_drop]; omega
  generalize (Frame.view (bs.drop n)).1 = p at *
  generalize (Frame.view (bs.drop n)).2.1 = m at *
  (repeat with_reducible first|refine z_c ?_)
  refine (Clone_own x p w2 hrx (by omega)).mono ?_
  rintro v3 w3 ⟨ho3, hf3, hb3⟩
  have hb3' := below_then hb2' hb3
  refine (Clip_elem v3 p w.heap.size w3 ho3 (fun k hk => Nat.le_trans hb2'.size (hf3 k hk))).mono ?_
  rintro v4 _ ⟨he4, hbl4, rfl⟩
  have he4' := he4
  obtain ⟨hr4, A4, rfl, hfz4⟩ := he4
  refine lift (v := .slice (some ⟨w3.heap.size, 0, none⟩) 1 1) (w' := w3.alloc (.cells #[.slice A4 p.length p.length] 22)) (by kernel_rfl) ?_
  have ha : Below w3.heap.size w3 (w3.alloc (.cells #[.slice A4 p.length p.length] 22)) := (Below.refl _ _).alloc (Nat.le_refl _) _
  have hrow' := ((hrow.below hb2).below hb3).below ha
  refine apE w.heap.size und45 inf23 (by rfl) (by decide) hrow' hf (below_then hb3' ha).size (Own.new w3 22 [.slice A4 p.length p.length] (by simp)).rd (he4'.below ha) ?_ (by omega) ?_
  · by_cases hp : p = []
    · exact .inl hp
    refine .inr fun he => ?_
    obtain ⟨j, hj, _⟩ := Rd.block_lt hr4 (by simpa using hp)
    have h1 := hf3 j (hbl4 ▸ hj)
    rw [hj] at he
    have h2 := (hrow.below hb2).lt he.symm
    omega
  intro v5 w5 hrow5 hf5 hb5
  (repeat with_reducible first|refine z_o (by omega) ?_)
  refine hJ _ _ _ ⟨n + m, acc ++ [p], by omega, by simp, by simp; omega, ?_, hrow5, hf5, (below_then hb3' ha).trans hb5⟩ (by simp [intOf]; omega)
  rw [hscan]
  simp [Nat.add_assoc]
end Go.Proofs.Ytadbpelpbaikiaa.E
namespace Go.Proofs.Ytadbpelpbaikiaa.E
open Go
set_option maxRecDepth 100000

/-- shelfmark/disk.New -/
def S8 (a0 : Value) (R : Value → World → Prop) (w : World) : Prop :=
  LiftP Try.prog (Instr.build 56 #[]) (fun v6 w =>
  LiftP Try.prog (Instr.box 56 v6) (fun v7 w =>
  CallP Try.prog 25 #[v7, a0] (fun v10 w =>
  LiftP Try.prog (binS Go.BinOp.neq 25 (Go.Operand.tmp 11) (Go.Operand.const (Go.Value.int Go.IntKind.i64 0)) v10 (Go.Value.int Go.IntKind.i64 0)) (fun v12 w =>
  CondP v12 (fun w =>
    R (.tuple #[(Go.Value.pointer none), v10]) w) (fun w =>
    R (.tuple #[v7, (Go.Value.int Go.IntKind.i64 0)]) w) w) w) w) w) w
theorem S8.calls (a0 : Value) (R : Value → World → Prop) (w : World) (h : S8 a0 R w) : Calls Try.prog 8 #[a0] w fun e w' => ∃ v, e = .returned v ∧ R v w' :=
  calls_of_tr (n := 15) (c := bodyOf Try.f8) (.two .leaf (.two .leaf (.two (.two .leaf (.two .leaf (.two (.two .leaf .leaf) .leaf))) (.two .leaf .leaf)))) Try.func8 (by kernel_rfl) Try.ntmps8 (by kernel_rfl) (by kernel_rfl) [a0] (by kernel_rfl) (of_eq_ (by kernel_rfl) h)

/-- (*shelfmark/disk.Disk).Start -/
def S9 (a0 : Value) (R : Value → World → Prop) (w : World) : Prop :=
  NextP Try.prog (nilChk a0) (fun v7 w =>
  LiftP Try.prog (Instr.fieldAt 56 v7 1) (fun v8 w =>
  LiftP Try.prog (Instr.loadAt 4 v8) (fun v9 w =>
  CondP v9 (fun w =>
    R (.tuple #[(Go.Value.slice none 0 0), (Go.Value.slice none 0 0), (Go.Value.int Go.IntKind.i64 8)]) w) (fun w =>
    NextP Try.prog (nilChk a0) (fun v11 w =>
  LiftP Try.prog (Instr.fieldAt 56 v11 1) (fun v12 w =>
  LiftU Try.prog (Instr.storeAt 4 v12 (Go.Value.bool true)) (fun v_ w =>
  NextP Try.prog (nilChk a0) (fun v15 w =>
  LiftP Try.prog (Instr.fieldAt 56 v15 3) (fun v16 w =>
  LiftP Try.prog (Instr.loadAt 22 v16) (fun v17 w =>
  CallP Try.prog 26 #[v17] (fun v18 w =>
  LiftP Try.prog (Instr.extract v18 0) (fun v19 w =>
  LiftP Try.prog (Instr.extract v18 1) (fun v20 w =>
  NextP Try.prog (nilChk a0) (fun v23 w =>
  LiftP Try.prog (Instr.fieldAt 56 v23 3) (fun v24 w =>
  LiftP Try.prog (Instr.loadAt 22 v24) (fun v25 w =>
  LiftP Try.prog (Instr.sliceAt 22 v25 none (some v20) (some v20)) (fun v28 w =>
  NextP Try.prog (nilChk a0) (fun v29 w =>
  LiftP Try.prog (Instr.fieldAt 56 v29 3) (fun v30 w =>
  LiftU Try.prog (Instr.storeAt 22 v30 v28) (fun v__1 w =>
  NextP Try.prog (nilChk a0) (fun v32 w =>
  LiftP Try.prog (Instr.fieldAt 56 v32 2) (fun v33 w =>
  LiftP Try.prog (Instr.loadAt 22 v33) (fun v34 w =>
  CallP Try.prog 28 #[v34] (fun v35 w =>
  CallP Try.prog 27 #[v35] (fun v36 w =>
  R (.tuple #[v36, v19, (Go.Value.int Go.IntKind.i64 0)]) w) w) w) w) w) w) w) w) w) w) w) w) w) w) w) w) w) w) w) w) w) w) w) w) w) w
theorem S9.calls (a0 : Value) (R : Value → World → Prop) (w : World) (h : S9 a0 R w) : Calls Try.prog 9 #[a0] w fun e w' => ∃ v, e = .returned v ∧ R v w' :=
  calls_of_tr (n := 38) (c := bodyOf Try.f9) (.two .leaf (.two (.two .leaf (.two (.two .leaf .leaf) .leaf)) (.two .leaf (.two .leaf (.two .leaf (.two .leaf .leaf)))))) Try.func9 (by kernel_rfl) Try.ntmps9 (by kernel_rfl) (by kernel_rfl) [a0] (by kernel_rfl) (of_eq_ (by kernel_rfl) h)

/-- (*shelfmark/disk.Disk).Checkpoint -/
def S10 (a0 a1 : Value) (R : Value → World → Prop) (w : World) : Prop :=
  NextP Try.prog (nilChk a0) (fun v7 w =>
  LiftP Try.prog (Instr.fieldAt 56 v7 1) (fun v8 w =>
  LiftP Try.prog (Instr.loadAt 4 v8) (fun v9 w =>
  LiftP Try.prog (Op.unary Go.UnOp.not v9) (fun v10 w =>
  CondP v10 (fun w =>
    R (Go.Value.int Go.IntKind.i64 15) w) (fun w =>
    NextP Try.prog (nilChk a0) (fun v13 w =>
    LiftP Try.prog (Instr.fieldAt 56 v13 4) (fun v14 w =>
    LiftP Try.prog (Instr.loadAt 28 v14) (fun v15 w =>
    NextP Try.prog (builtin Go.Builtin.len #[28] 3 #[false] #[v15]) (fun v16 w =>
    LiftP Try.prog (binS Go.BinOp.gtr 3 (Go.Operand.tmp 16) (Go.Operand.const (Go.Value.int Go.IntKind.i64 0)) v16 (Go.Value.int Go.IntKind.i64 0)) (fun v17 w =>
    CondP v17 (fun w =>
      R (Go.Value.int Go.IntKind.i64 10) w) (fun w =>
      DrawP (fun S w =>
      YieldN Try.prog S (nilChk a0) (fun v22 w =>
      YieldP Try.prog S (Instr.fieldAt 56 v22 0) (fun v23 w =>
      YieldP Try.prog S (Instr.loadAt 3 v23) (fun v24 w =>
      ActP S (fun K w => CallP Try.prog 29 #[a1] K w) (fun S v20 w =>
      YieldP Try.prog S (binS Go.BinOp.gtr 3 (Go.Operand.tmp 20) (Go.Operand.tmp 24) v20 v24) (fun v25 w =>
      CondP v25 (fun w =>
        R (Go.Value.int Go.IntKind.i64 6) w) (fun w =>
        CallP Try.prog 28 #[a1] (fun v29 w =>
  NextP Try.prog (nilChk a0) (fun v30 w =>
  LiftP Try.prog (Instr.fieldAt 56 v30 2) (fun v31 w =>
  LiftU Try.prog (Instr.storeAt 22 v31 v29) (fun v_ w =>
  NextP Try.prog (nilChk a0) (fun v32 w =>
  LiftP Try.prog (Instr.fieldAt 56 v32 3) (fun v33 w =>
  LiftU Try.prog (Instr.storeAt 22 v33 (Go.Value.slice none 0 0)) (fun v__1 w =>
  R (Go.Value.int Go.IntKind.i64 0) w) w) w) w) w) w) w) w) w) w) w) w) w) w) w) w) w) w) w) w) w) w) w) w) w) w
theorem S10.calls (a0 a1 : Value) (R : Value → World → Prop) (w : World) (h : S10 a0 a1 R w) : Calls Try.prog 10 #[a0, a1] w fun e w' => ∃ v, e = .returned v ∧ R v w' :=
  calls_of_tr (n := 34) (c := bodyOf Try.f10) (.two .leaf (.two (.one (.two .leaf (.two (.two .leaf .leaf) (.two .leaf (.two (.two .leaf .leaf) (.two (.draw [(true, 0), (true, 2), (true, 3), (true, 4), (true, 5), (false, 1), (true, 6), (true, 7)]) (.two (.two .leaf .leaf) .leaf))))))) (.two .leaf (.two .leaf .leaf)))) Try.func10 (by kernel_rfl) Try.ntmps10 (by kernel_rfl) (by kernel_rfl) [a0, a1] (by kernel_rfl) (of_eq_ (by kernel_rfl) h)

/-- (*shelfmark/disk.Disk).Crash -/
def S12 (a0 a1 a2 : Value) (R : Value → World → Prop) (w : World) : Prop :=
  NextP Try.prog (nilChk a0) (fun v10 w =>
  LiftP Try.prog (Instr.fieldAt 56 v10 1) (fun v11 w =>
  LiftP Try.prog (Instr.loadAt 4 v11) (fun v12 w =>
  LiftP Try.prog (Op.unary Go.UnOp.not v12) (fun v13 w =>
  CondP v13 (fun w =>
    R (.tuple #[]) w) (fun w =>
    NextP Try.prog (builtin Go.Builtin.max #[3, 3] 3 #[false, true] #[a1, (Go.Value.int Go.IntKind.i64 0)]) (fun v15 w =>
  NextP Try.prog (nilChk a0) (fun v17 w =>
  LiftP Try.prog (Instr.fieldAt 56 v17 4) (fun v18 w =>
  LiftP Try.prog (Instr.loadAt 28 v18) (fun v19 w =>
  NextP Try.prog (builtin Go.Builtin.len #[28] 3 #[false] #[v19]) (fun v20 w =>
  NextP Try.prog (builtin Go.Builtin.min #[3, 3] 3 #[false, false] #[v15, v20]) (fun v21 w =>
  NextP Try.prog (nilChk a0) (fun v23 w =>
  LiftP Try.prog (Instr.fieldAt 56 v23 4) (fun v24 w =>
  LiftP Try.prog (Instr.loadAt 28 v24) (fun v25 w =>
  LiftP Try.prog (Instr.sliceAt 28 v25 none (some v21) none) (fun v27 w =>
  NextP Try.prog (builtin Go.Builtin.len #[28] 3 #[false] #[v27]) (fun v28 w =>
  LoopP (fun J vs w =>   -- [29]
    LiftP Try.prog (binS Go.BinOp.lss 3 (Go.Operand.tmp 29) (Go.Operand.tmp 28) (vs.headD undef) v28) (fun v30 w =>
    CondP v30 (fun w =>
      LiftP Try.prog (Instr.indexAt 28 v27 (vs.headD undef)) (fun v31 w =>
    LiftP Try.prog (Instr.loadAt 22 v31) (fun v32 w =>
    NextP Try.prog (nilChk a0) (fun v35 w =>
    LiftP Try.prog (Instr.fieldAt 56 v35 3) (fun v36 w =>
    LiftP Try.prog (Instr.loadAt 22 v36) (fun v37 w =>
    NextP Try.prog (builtin Go.Builtin.append #[22, 22] 22 #[false, false] #[v37, v32]) (fun v39 w =>
    NextP Try.prog (nilChk a0) (fun v40 w =>
    LiftP Try.prog (Instr.fieldAt 56 v40 3) (fun v41 w =>
    LiftU Try.prog (Instr.storeAt 22 v41 v39) (fun v_ w =>
    LiftP Try.prog (binS Go.BinOp.add 3 (Go.Operand.tmp 29) (Go.Operand.const (Go.Value.int Go.IntKind.i64 1)) (vs.headD undef) (Go.Value.int Go.IntKind.i64 1)) (fun v42 w =>
    J [v42] w) w) w) w) w) w) w) w) w) w) w) (fun w =>
      JoinP (fun J_1 w =>
    NextP Try.prog (nilChk a0) (fun v45 w =>
    LiftP Try.prog (Instr.fieldAt 56 v45 4) (fun v46 w =>
    LiftP Try.prog (Instr.loadAt 28 v46) (fun v47 w =>
    NextP Try.prog (builtin Go.Builtin.len #[28] 3 #[false] #[v47]) (fun v48 w =>
    LiftP Try.prog (binS Go.BinOp.lss 3 (Go.Operand.tmp 43) (Go.Operand.tmp 48) v21 v48) (fun v49 w =>
    CondP v49 (fun w =>
      NextP Try.prog (nilChk a0) (fun v51 w =>
      LiftP Try.prog (Instr.fieldAt 56 v51 4) (fun v52 w =>
      LiftP Try.prog (Instr.loadAt 28 v52) (fun v53 w =>
      LiftP Try.prog (Instr.indexAt 28 v53 v21) (fun v55 w =>
      LiftP Try.prog (Instr.loadAt 22 v55) (fun v56 w =>
      DrawP (fun S w =>
      YieldN Try.prog S (nilChk a0) (fun v59 w =>
      YieldP Try.prog S (Instr.fieldAt 56 v59 3) (fun v60 w =>
      YieldP Try.prog S (Instr.loadAt 22 v60) (fun v61 w =>
      YieldN Try.prog S (builtin Go.Builtin.max #[3, 3] 3 #[false, true] #[a2, (Go.Value.int Go.IntKind.i64 0)]) (fun v64 w =>
      YieldN Try.prog S (builtin Go.Builtin.len #[22] 3 #[false] #[v56]) (fun v66 w =>
      YieldP Try.prog S (binS Go.BinOp.sub 3 (Go.Operand.tmp 66) (Go.Operand.const (Go.Value.int Go.IntKind.i64 1)) v66 (Go.Value.int Go.IntKind.i64 1)) (fun v67 w =>
      YieldN Try.prog S (builtin Go.Builtin.min #[3, 3] 3 #[false, false] #[v64, v67]) (fun v68 w =>
      YieldP Try.prog S (Instr.sliceAt 22 v56 none (some v68) none) (fun v69 w =>
      ActP S (fun K w => NextP Try.prog (builtin Go.Builtin.append #[22, 22] 22 #[false, false] #[v61, v69]) K w) (fun S v70 w =>
      YieldN Try.prog S (nilChk a0) (fun v71 w =>
      YieldP Try.prog S (Instr.fieldAt 56 v71 3) (fun v72 w =>
      LiftU Try.prog (Instr.storeAt 22 v72 v70) (fun v__1 w =>
      J_1 [] w) w) w) w) w) w) w) w) w) w) w) w) w) w) w) w) w) w) w) (fun w =>
      J_1 [] w) w) w) w) w) w) w) (fun vs_1 w =>   -- []
  NextP Try.prog (nilChk a0) (fun v75 w =>
  LiftP Try.prog (Instr.fieldAt 56 v75 1) (fun v76 w =>
  LiftU Try.prog (Instr.storeAt 4 v76 (Go.Value.bool false)) (fun v__2 w =>
  NextP Try.prog (nilChk a0) (fun v77 w =>
  LiftP Try.prog (Instr.fieldAt 56 v77 4) (fun v78 w =>
  LiftU Try.prog (Instr.storeAt 28 v78 (Go.Value.slice none 0 0)) (fun v__3 w =>
  R (.tuple #[]) w) w) w) w) w) w) w) w) w) w) [(Go.Value.int Go.IntKind.i64 0)] w) w) w) w) w) w) w) w) w) w) w) w) w) w) w) w) w
theorem S12.calls (a0 a1 a2 : Value) (R : Value → World → Prop) (w : World) (h : S12 a0 a1 a2 R w) : Calls Try.prog 12 #[a0, a1, a2] w fun e w' => ∃ v, e = .returned v ∧ R v w' :=
  calls_of_tr (n := 79) (c := bodyOf Try.f12) (.two (.two .leaf (.two .leaf .leaf)) (.two .leaf (.two (.two .leaf (.one (.loop [29] (.two .leaf (.two (.two .leaf .leaf) (.two (.one (.two .leaf .leaf)) .leaf)))))) (.join [] (.two .leaf (.two (.two .leaf (.drawL [(true, 0), (true, 1), (true, 2), (true, 3), (true, 4), (true, 5), (true, 6), (true, 7), (true, 8), (true, 9), (true, 10), (true, 11), (true, 12), (false, 13), (true, 14), (true, 15)] 16)) .leaf)) .leaf)))) Try.func12 (by kernel_rfl) Try.ntmps12 (by kernel_rfl) (by kernel_rfl) [a0, a1, a2] (by kernel_rfl) (of_eq_ (by kernel_rfl) h)

/-- (*shelfmark/disk.Disk).Used -/
def S24 (a0 : Value) (R : Value → World → Prop) (w : World) : Prop :=
  DrawP (fun S w =>
  YieldN Try.prog S (nilChk a0) (fun v7 w =>
  YieldP Try.prog S (Instr.fieldAt 56 v7 2) (fun v8 w =>
  YieldP Try.prog S (Instr.loadAt 22 v8) (fun v9 w =>
  YieldN Try.prog S (nilChk a0) (fun v12 w =>
  YieldP Try.prog S (Instr.fieldAt 56 v12 3) (fun v13 w =>
  YieldP Try.prog S (Instr.loadAt 22 v13) (fun v14 w =>
  YieldN Try.prog S (builtin Go.Builtin.len #[22] 3 #[false] #[v14]) (fun v15 w =>
  ActP S (fun K w => CallP Try.prog 29 #[v9] K w) (fun S v10 w =>
  YieldP Try.prog S (binS Go.BinOp.add 3 (Go.Operand.tmp 10) (Go.Operand.tmp 15) v10 v15) (fun v16 w =>
  NextP Try.prog (nilChk a0) (fun v18 w =>
  LiftP Try.prog (Instr.fieldAt 56 v18 4) (fun v19 w =>
  LiftP Try.prog (Instr.loadAt 28 v19) (fun v20 w =>
  NextP Try.prog (builtin Go.Builtin.len #[28] 3 #[false] #[v20]) (fun v21 w =>
  LoopP (fun J vs w =>   -- [3, 22]
    LiftP Try.prog (binS Go.BinOp.lss 3 (Go.Operand.tmp 22) (Go.Operand.tmp 21) (vs.tail.headD undef) v21) (fun v23 w =>
    CondP v23 (fun w =>
      LiftP Try.prog (Instr.indexAt 28 v20 (vs.tail.headD undef)) (fun v24 w =>
    LiftP Try.prog (Instr.loadAt 22 v24) (fun v25 w =>
    NextP Try.prog (builtin Go.Builtin.len #[22] 3 #[false] #[v25]) (fun v28 w =>
    LiftP Try.prog (binS Go.BinOp.add 3 (Go.Operand.tmp 26) (Go.Operand.tmp 28) (vs.headD undef) v28) (fun v29 w =>
    LiftP Try.prog (binS Go.BinOp.add 3 (Go.Operand.tmp 22) (Go.Operand.const (Go.Value.int Go.IntKind.i64 1)) (vs.tail.headD undef) (Go.Value.int Go.IntKind.i64 1)) (fun v30 w =>
    J [v29, v30] w) w) w) w) w) w) (fun w =>
      R (vs.headD undef) w) w) w) [v16, (Go.Value.int Go.IntKind.i64 0)] w) w) w) w) w) w) w) w) w) w) w) w) w) w) w
theorem S24.calls (a0 : Value) (R : Value → World → Prop) (w : World) (h : S24 a0 R w) : Calls Try.prog 24 #[a0] w fun e w' => ∃ v, e = .returned v ∧ R v w' :=
  calls_of_tr (n := 32) (c := bodyOf Try.f24) (.two .leaf (.two (.draw [(true, 0), (true, 1), (true, 2), (true, 3), (true, 5), (true, 6), (true, 7), (true, 8), (true, 9), (false, 4), (true, 10), (true, 11)]) (.two (.two .leaf (.one (.loop [3, 22] (.two .leaf (.two (.two .leaf .leaf) (.two (.one (.two .leaf .leaf)) .leaf)))))) (.two .leaf .leaf)))) Try.func24 (by kernel_rfl) Try.ntmps24 (by kernel_rfl) (by kernel_rfl) [a0] (by kernel_rfl) (of_eq_ (by kernel_rfl) h)

/-- (*shelfmark/disk.Disk).Resize -/
def S25 (a0 a1 : Value) (R : Value → World → Prop) (w : World) : Prop :=
  LiftP Try.prog (binS Go.BinOp.lss 3 (Go.Operand.tmp 6) (Go.Operand.const (Go.Value.int Go.IntKind.i64 0)) a1 (Go.Value.int Go.IntKind.i64 0)) (fun v7 w =>
  GuardP v7 false (fun K w => K a1 w) (fun v9 w =>
  GuardP v7 false (fun K w => LiftP Try.prog (binS Go.BinOp.gtr 3 (Go.Operand.tmp 9) (Go.Operand.const (Go.Value.int Go.IntKind.i64 4194304)) v9 (Go.Value.int Go.IntKind.i64 4194304)) K w) (fun v10 w =>
  PickP v7 (Go.Value.bool true) v10 (fun v11 w =>
  CondP v11 (fun w =>
    R (Go.Value.int Go.IntKind.i64 1) w) (fun w =>
    CallP Try.prog 24 #[a0] (fun v14 w =>
    LiftP Try.prog (binS Go.BinOp.gtr 3 (Go.Operand.tmp 14) (Go.Operand.tmp 15) v14 a1) (fun v16 w =>
    CondP v16 (fun w =>
      R (Go.Value.int Go.IntKind.i64 6) w) (fun w =>
      NextP Try.prog (nilChk a0) (fun v19 w =>
  LiftP Try.prog (Instr.fieldAt 56 v19 0) (fun v20 w =>
  LiftU Try.prog (Instr.storeAt 3 v20 a1) (fun v_ w =>
  R (Go.Value.int Go.IntKind.i64 0) w) w) w) w) w) w) w) w) w) w) w) w
theorem S25.calls (a0 a1 : Value) (R : Value → World → Prop) (w : World) (h : S25 a0 a1 R w) : Calls Try.prog 25 #[a0, a1] w fun e w' => ∃ v, e = .returned v ∧ R v w' :=
  calls_of_tr (n := 21) (c := bodyOf Try.f25) (.two .leaf (.two (.one (.two .leaf (.two (.two .leaf .leaf) (.two .leaf (.two (.two .leaf .leaf) .leaf))))) (.two .leaf (.two .leaf .leaf)))) Try.func25 (by kernel_rfl) Try.ntmps25 (by kernel_rfl) (by kernel_rfl) [a0, a1] (by kernel_rfl) (of_eq_ (by kernel_rfl) h)

/-- shelfmark/disk.cost -/
def S29 (a0 : Value) (R : Value → World → Prop) (w : World) : Prop :=
  NextP Try.prog (builtin Go.Builtin.len #[22] 3 #[false] #[a0]) (fun v4 w =>
  LiftP Try.prog (binS Go.BinOp.eql 3 (Go.Operand.tmp 4) (Go.Operand.const (Go.Value.int Go.IntKind.i64 0)) v4 (Go.Value.int Go.IntKind.i64 0)) (fun v5 w =>
  CondP v5 (fun w =>
    R (Go.Value.int Go.IntKind.i64 0) w) (fun w =>
    NextP Try.prog (builtin Go.Builtin.len #[22] 3 #[false] #[a0]) (fun v7 w =>
  LiftP Try.prog (binS Go.BinOp.add 3 (Go.Operand.tmp 7) (Go.Operand.const (Go.Value.int Go.IntKind.i64 8)) v7 (Go.Value.int Go.IntKind.i64 8)) (fun v8 w =>
  R v8 w) w) w) w) w) w
theorem S29.calls (a0 : Value) (R : Value → World → Prop) (w : World) (h : S29 a0 R w) : Calls Try.prog 29 #[a0] w fun e w' => ∃ v, e = .returned v ∧ R v w' :=
  calls_of_tr (n := 9) (c := bodyOf Try.f29) (.two .leaf (.two (.two .leaf (.two (.two .leaf .leaf) .leaf)) (.two .leaf .leaf))) Try.func29 (by kernel_rfl) Try.ntmps29 (by kernel_rfl) (by kernel_rfl) [a0] (by kernel_rfl) (of_eq_ (by kernel_rfl) h)

/-- (*shelfmark/disk.Disk).Append -/
def S32 (a0 a1 : Value) (R : Value → World → Prop) (w : World) : Prop :=
  NextP Try.prog (nilChk a0) (fun v8 w =>
  LiftP Try.prog (Instr.fieldAt 56 v8 1) (fun v9 w =>
  LiftP Try.prog (Instr.loadAt 4 v9) (fun v10 w =>
  LiftP Try.prog (Op.unary Go.UnOp.not v10) (fun v11 w =>
  CondP v11 (fun w =>
    R (Go.Value.int Go.IntKind.i64 15) w) (fun w =>
    CallP Try.prog 37 #[a1] (fun v14 w =>
  LiftP Try.prog (Instr.extract v14 0) (fun v15 w =>
  LiftP Try.prog (Instr.extract v14 1) (fun v16 w =>
  LiftP Try.prog (binS Go.BinOp.neq 25 (Go.Operand.tmp 18) (Go.Operand.const (Go.Value.int Go.IntKind.i64 0)) v16 (Go.Value.int Go.IntKind.i64 0)) (fun v19 w =>
  CondP v19 (fun w =>
    R v16 w) (fun w =>
    DrawP (fun S w =>
    YieldN Try.prog S (builtin Go.Builtin.len #[22] 3 #[false] #[v15]) (fun v25 w =>
    YieldN Try.prog S (nilChk a0) (fun v28 w =>
    YieldP Try.prog S (Instr.fieldAt 56 v28 0) (fun v29 w =>
    YieldP Try.prog S (Instr.loadAt 3 v29) (fun v30 w =>
    ActP S (fun K w => CallP Try.prog 24 #[a0] K w) (fun S v23 w =>
    YieldP Try.prog S (binS Go.BinOp.add 3 (Go.Operand.tmp 23) (Go.Operand.tmp 25) v23 v25) (fun v26 w =>
    YieldP Try.prog S (binS Go.BinOp.gtr 3 (Go.Operand.tmp 26) (Go.Operand.tmp 30) v26 v30) (fun v31 w =>
    CondP v31 (fun w =>
      R (Go.Value.int Go.IntKind.i64 6) w) (fun w =>
      NextP Try.prog (nilChk a0) (fun v34 w =>
  LiftP Try.prog (Instr.fieldAt 56 v34 4) (fun v35 w =>
  LiftP Try.prog (Instr.loadAt 28 v35) (fun v36 w =>
  LiftP Try.prog (Instr.buildSlice 28 1 #[(0, v15)]) (fun v38 w =>
  NextP Try.prog (builtin Go.Builtin.append #[28, 28] 28 #[false, false] #[v36, v38]) (fun v39 w =>
  NextP Try.prog (nilChk a0) (fun v40 w =>
  LiftP Try.prog (Instr.fieldAt 56 v40 4) (fun v41 w =>
  LiftU Try.prog (Instr.storeAt 28 v41 v39) (fun v_ w =>
  R (Go.Value.int Go.IntKind.i64 0) w) w) w) w) w) w) w) w) w) w) w) w) w) w) w) w) w) w) w) w) w) w) w) w) w) w) w) w
theorem S32.calls (a0 a1 : Value) (R : Value → World → Prop) (w : World) (h : S32 a0 a1 R w) : Calls Try.prog 32 #[a0, a1] w fun e w' => ∃ v, e = .returned v ∧ R v w' :=
  calls_of_tr (n := 42) (c := bodyOf Try.f32) (.two .leaf (.two (.two .leaf (.two (.two .leaf .leaf) .leaf)) (.two .leaf (.two (.one (.two .leaf (.two (.two .leaf .leaf) (.two (.draw [(true, 0), (true, 2), (true, 3), (true, 5), (true, 6), (true, 7), (true, 8), (false, 1), (true, 4), (true, 9), (true, 10)]) (.two (.two .leaf .leaf) .leaf))))) (.two .leaf (.two .leaf .leaf)))))) Try.func32 (by kernel_rfl) Try.ntmps32 (by kernel_rfl) (by kernel_rfl) [a0, a1] (by kernel_rfl) (of_eq_ (by kernel_rfl) h)

/-- (*shelfmark/disk.Disk).Sync -/
def S34 (a0 : Value) (R : Value → World → Prop) (w : World) : Prop :=
  NextP Try.prog (nilChk a0) (fun v4 w =>
  LiftP Try.prog (Instr.fieldAt 56 v4 1) (fun v5 w =>
  LiftP Try.prog (Instr.loadAt 4 v5) (fun v6 w =>
  LiftP Try.prog (Op.unary Go.UnOp.not v6) (fun v7 w =>
  CondP v7 (fun w =>
    R (Go.Value.int Go.IntKind.i64 15) w) (fun w =>
    DrawP (fun S w =>
  YieldN Try.prog S (nilChk a0) (fun v10 w =>
  YieldP Try.prog S (Instr.fieldAt 56 v10 3) (fun v11 w =>
  YieldP Try.prog S (Instr.loadAt 22 v11) (fun v12 w =>
  YieldN Try.prog S (nilChk a0) (fun v14 w =>
  YieldP Try.prog S (Instr.fieldAt 56 v14 4) (fun v15 w =>
  YieldP Try.prog S (Instr.loadAt 28 v15) (fun v16 w =>
  ActP S (fun K w => CallP Try.prog 38 #[v16] K w) (fun S v17 w =>
  ActP S (fun K w => NextP Try.prog (builtin Go.Builtin.append #[22, 22] 22 #[false, false] #[v12, v17]) K w) (fun S v18 w =>
  YieldN Try.prog S (nilChk a0) (fun v19 w =>
  YieldP Try.prog S (Instr.fieldAt 56 v19 3) (fun v20 w =>
  LiftU Try.prog (Instr.storeAt 22 v20 v18) (fun v_ w =>
  NextP Try.prog (nilChk a0) (fun v22 w =>
  LiftP Try.prog (Instr.fieldAt 56 v22 4) (fun v23 w =>
  LiftU Try.prog (Instr.storeAt 28 v23 (Go.Value.slice none 0 0)) (fun v__1 w =>
  R (Go.Value.int Go.IntKind.i64 0) w) w) w) w) w) w) w) w) w) w) w) w) w) w) w) w) w) w) w) w) w
theorem S34.calls (a0 : Value) (R : Value → World → Prop) (w : World) (h : S34 a0 R w) : Calls Try.prog 34 #[a0] w fun e w' => ∃ v, e = .returned v ∧ R v w' :=
  calls_of_tr (n := 24) (c := bodyOf Try.f34) (.two .leaf (.two (.two .leaf (.two (.two .leaf .leaf) .leaf)) (.two (.drawL [(true, 0), (true, 1), (true, 2), (true, 3), (true, 4), (true, 5), (true, 6), (true, 7), (true, 8), (false, 9), (false, 10), (true, 11), (true, 12)] 13) (.two .leaf (.two .leaf .leaf))))) Try.func34 (by kernel_rfl) Try.ntmps34 (by kernel_rfl) (by kernel_rfl) [a0] (by kernel_rfl) (of_eq_ (by kernel_rfl) h)

/-- (*shelfmark/disk.Disk).Waiting -/
def S35 (a0 : Value) (R : Value → World → Prop) (w : World) : Prop :=
  NextP Try.prog (nilChk a0) (fun v4 w =>
  LiftP Try.prog (Instr.fieldAt 56 v4 4) (fun v5 w =>
  LiftP Try.prog (Instr.loadAt 28 v5) (fun v6 w =>
  NextP Try.prog (builtin Go.Builtin.len #[28] 3 #[false] #[v6]) (fun v7 w =>
  R v7 w) w) w) w) w
theorem S35.calls (a0 : Value) (R : Value → World → Prop) (w : World) (h : S35 a0 R w) : Calls Try.prog 35 #[a0] w fun e w' => ∃ v, e = .returned v ∧ R v w' :=
  calls_of_tr (n := 8) (c := bodyOf Try.f35) (.two .leaf (.two .leaf .leaf)) Try.func35 (by kernel_rfl) Try.ntmps35 (by kernel_rfl) (by kernel_rfl) [a0] (by kernel_rfl) (of_eq_ (by kernel_rfl) h)

end Go.Proofs.Ytadbpelpbaikiaa.E
namespace Go.Proofs.Ytadbpelpbaikiaa.E
open Go Go.RowKit
set_option linter.unusedSimpArgs false
set_option linter.unusedVariables false

theorem f0 : fofs Try.prog 56 0 = some (0, 1) := by kernel_rfl
theorem f1 : fofs Try.prog 56 1 = some (1, 1) := by kernel_rfl
theorem f2 : fofs Try.prog 56 2 = some (2, 1) := by kernel_rfl
theorem f3 : fofs Try.prog 56 3 = some (3, 1) := by kernel_rfl
theorem f4 : fofs Try.prog 56 4 = some (4, 1) := by kernel_rfl
theorem one4 : oneB Try.prog 4 = true := by kernel_rfl
theorem one45 : oneB Try.prog 28 = true := by kernel_rfl
theorem sz4 : (Try.prog.info? 4).map (·.size) = some 1 := by kernel_rfl
theorem sz45 : (Try.prog.info? 28).map (·.size) = some 1 := by kernel_rfl
/-- A disk's state. -/
structure Dk where
  room : Nat
  on : Bool
  state : List UInt8
  log : List UInt8
  waits : List (List UInt8)
def costL (s : List UInt8) : Nat := if s.length = 0 then 0 else s.length + 8
def Dk.used (d : Dk) : Nat := costL d.state + d.log.length + d.waits.flatten.length
def Dk.small (d : Dk) : Prop := d.used ≤ 900000 ∧ d.waits.length ≤ 100000 ∧ d.room ≤ 4194304
/-- A disk in memory: its struct's block has colour 1, its log 2, the row of what waits 3, what is only read 4. -/
structure DiskAt (c : Nat → Nat) (w : World) (g : Nat) (d : Dk) (s l q : Value) (xs : List Value) : Prop where
  hue : c g = 1
  blk : Blk w g 56 #[.int .i64 d.room, .bool d.on, s, l, q]
  s1 : RdB w s d.state
  s2 : d.state = [] ∨ InC c 4 s
  l1 : OwnC 5 w l (d.log.map u8)
  l2 : InC c 2 l
  q1 : Own 22 w q xs
  q2 : InC c 3 q
  len : xs.length = d.waits.length
  el : ∀ i (h1 : i < xs.length) (h2 : i < d.waits.length), RdB w xs[i] d.waits[i] ∧ (d.waits[i] = [] ∨ InC c 4 xs[i])
def DiskC (c : Nat → Nat) (w : World) (g : Nat) (d : Dk) : Prop := ∃ s l q xs, DiskAt c w g d s l q xs
/-- What a call leaves: the disk, and that nothing else has turned; of what is new what is not the disk's has colour x. -/
def Left (c : Nat → Nat) (w : World) (g : Nat) (d : Dk) (w' : World) : Prop := ∃ c', (∀ k, k < w.heap.size → c' k = c k) ∧ DiskC c' w' g d ∧ Turns (D c) w w'
section
variable {c c' : Nat → Nat} {w w' : World} {g : Nat} {d : Dk} {s l q : Value} {xs : List Value}
theorem DiskAt.turns {F : Nat → Prop} (h : DiskAt c w g d s l q xs) (hT : Turns F w w') (hF : ∀ k, F k → c k = 0) : DiskAt c w' g d s l q xs := by
  have no : ∀ {x : Nat} {v : Value}, x ≠ 0 → InC c x v → ∀ b, v.ownBlock = some b → ¬ F b := fun hx hv b hb hFb => hx ((hv b hb).symm.trans (hF b hFb))
  exact ⟨h.hue, h.blk.turns hT (fun hg => by have := hF g hg; rw [h.hue] at this; omega), h.s1.turns hT (h.s2.imp_right (no (by omega))), h.s2, h.l1.turns hT (no (by omega) h.l2), h.l2, h.q1.turns hT (no (by omega) h.q2), h.q2, h.len,
    fun i h1 h2 => ⟨(h.el i h1 h2).1.turns hT ((h.el i h1 h2).2.imp_right (no (by omega))), (h.el i h1 h2).2⟩⟩
theorem DiskAt.below (h : DiskAt c w g d s l q xs) (hb : Below w.heap.size w w') : DiskAt c w' g d s l q xs := h.turns (F := fun _ => False) (Turns.of_below hb) (fun _ h => h.elim)
theorem DiskAt.re (h : DiskAt c w g d s l q xs) (hc : ∀ k, k < w.heap.size → c' k = c k) : DiskAt c' w g d s l q xs := by
  refine ⟨(hc g h.blk.lt).trans h.hue, h.blk, h.s1, ?_, h.l1, h.l2.re (fun b hb => h.l1.lt hb) hc, h.q1, h.q2.re (fun b hb => h.q1.ownLt hb) hc, h.len, fun i h1 h2 => ⟨(h.el i h1 h2).1, ?_⟩⟩
  · by_cases e : d.state = []
    · exact .inl e
    · exact .inr ((h.s2.resolve_left e).re (fun b hb => h.s1.lt e hb) hc)
  · by_cases e : d.waits[i] = []
    · exact .inl e
    · exact .inr (((h.el i h1 h2).2.resolve_left e).re (fun b hb => (h.el i h1 h2).1.lt e hb) hc)
theorem DiskC.turns {F : Nat → Prop} (h : DiskC c w g d) (hT : Turns F w w') (hF : ∀ k, F k → c k = 0) : DiskC c w' g d := by
  obtain ⟨s, l, q, xs, h⟩ := h; exact ⟨s, l, q, xs, h.turns hT hF⟩
theorem DiskC.below (h : DiskC c w g d) (hb : Below w.heap.size w w') : DiskC c w' g d := h.turns (F := fun _ => False) (Turns.of_below hb) (fun _ h => h.elim)
theorem DiskC.re (h : DiskC c w g d) (hc : ∀ k, k < w.heap.size → c' k = c k) : DiskC c' w g d := by
  obtain ⟨s, l, q, xs, h⟩ := h; exact ⟨s, l, q, xs, h.re hc⟩
theorem DiskAt.ss (h : DiskAt c w g d s l q xs) : RdSS w q d.waits := RdSS.of h.q1.rd h.len fun i h1 h2 => (h.el i h1 h2).1
/-- A field of the struct is written. -/
theorem DiskAt.cells (h : DiskAt c w g d s l q xs) (i : Nat) (u : Value) : Turns (D c) w (w.setCell ⟨g, i, none⟩ u) := Turns.setCell (Turns.refl _ w) (.inl (by rw [D, h.hue]; omega)) u
theorem setT (w : World) (g i : Nat) (u : Value) : Turns (fun k => k = g) w (w.setCell ⟨g, i, none⟩ u) := Turns.setCell (F := fun k => k = g) (p := ⟨g, i, none⟩) (Turns.refl _ w) (.inl rfl) u
/-- All but the struct, when the struct alone has turned. -/
theorem DiskAt.rest (h : DiskAt c w g d s l q xs) (hT : Turns (fun k => k = g) w w') : RdB w' s d.state ∧ OwnC 5 w' l (d.log.map u8) ∧ Own 22 w' q xs ∧ ∀ i (h1 : i < xs.length) (h2 : i < d.waits.length), RdB w' xs[i] d.waits[i] ∧ (d.waits[i] = [] ∨ InC c 4 xs[i]) := by
  have hg := h.hue
  exact ⟨h.s1.turns hT (h.s2.imp_right fun hc b hb he => hc.ne hg (by omega) (by rw [hb, he])), h.l1.turns hT (fun b hb he => h.l2.ne hg (by omega) (by rw [hb, he])), h.q1.turns hT (fun b hb he => h.q2.ne hg (by omega) (by rw [hb, he])),
    fun i g1 g2 => ⟨(h.el i g1 g2).1.turns hT ((h.el i g1 g2).2.imp_right fun hc b hb he => hc.ne hg (by omega) (by rw [hb, he])), (h.el i g1 g2).2⟩⟩
end
theorem cost_spec (v : Value) (bs : List UInt8) (w : World) (hv : RdB w v bs) (hl : bs.length ≤ 1000000000) : CallP Try.prog 29 #[v] (fun r w' => r = .int .i64 (costL bs) ∧ w = w') w := by
  obtain ⟨A, c, rfl, _, _, _⟩ := hv.slice
  refine ⟨S29.calls _ _ _ ?_⟩
  unfold S29
  refine ln und23 ?_
  unfold costL
  (first | refine bi_lss_c (fun h => ?_) (fun h => ?_) | refine bi_eql_c (fun h => ?_) (fun h => ?_) | refine bi_neq_c (fun h => ?_) (fun h => ?_) | refine bi_gtr_c (fun h => ?_) (fun h => ?_) | refine bi_leq_c (fun h => ?_) (fun h => ?_) | refine bi_geq_c (fun h => ?_) (fun h => ?_) | refine bi_seql_c (fun h => ?_) (fun h => ?_) | refine bi_sneq_c (fun h => ?_) (fun h => ?_))
  · (repeat with_reducible first|refine z_b ?_)
    rw [if_pos (by omega)]
    exact ⟨rfl, rfl⟩
  · (repeat with_reducible first|refine z_c ?_)
    refine ln und23 ?_
    (repeat with_reducible first|refine z_o (by omega) ?_)
    rw [if_neg (by omega)]
    exact ⟨rfl, rfl⟩
theorem Used_spec (c : Nat → Nat) (w : World) (g : Nat) (d : Dk) (hD : DiskC c w g d) (hs : d.small) : CallP Try.prog 24 #[.pointer (some ⟨g, 0, none⟩)] (fun r w' => r = .int .i64 d.used ∧ Below w.heap.size w w') w := by
  obtain ⟨s, l, q, xs, hD⟩ := hD
  obtain ⟨hs1, hs2, _⟩ := hs
  have hu : d.used = costL d.state + d.log.length + d.waits.flatten.length := rfl
  have hst : d.state.length ≤ costL d.state := by unfold costL; split <;> omega
  have hdr : Below w.heap.size w w.drew := (Below.refl _ _).drew
  have c2 : ∀ w', Below w.heap.size w w' → w'.cell? ⟨g, 2, none⟩ = some s := fun w' hb => (hD.blk.below' hb).cell 2
  have c3 : ∀ w', Below w.heap.size w w' → w'.cell? ⟨g, 3, none⟩ = some l := fun w' hb => (hD.blk.below' hb).cell 3
  obtain ⟨Al, cl, rfl⟩ := hD.l1.slice
  rw [List.length_map] at hD c3
  refine ⟨S24.calls _ _ _ ?_⟩
  unfold S24
  refine draw (Below w.heap.size w) hdr ?_
  (repeat with_reducible first|refine yfd f2 (by decide) ?_|refine yfd f3 (by decide) ?_|refine yl1 one23 c2 ?_|refine yl1 one23 c3 ?_|refine yln und23 ?_|refine z_W ?_)
  refine act ?_
  refine (cost_spec s d.state _ (hD.s1.below hdr) (by omega)).mono ?_
  rintro _ _ ⟨rfl, rfl⟩
  refine ⟨_, hdr, fun _ h => h, ?_⟩
  (repeat with_reducible first|refine z_a ?_|refine z_Z (by omega) ?_)
  have h' := hD.below hdr
  have hss := h'.ss
  have c4 : w.drew.cell? ⟨g, 4, none⟩ = some q := h'.blk.cell 4
  obtain ⟨A, cap, rfl, hc1, hc2⟩ := hss.slice
  (repeat with_reducible first|refine fd f4 (by decide) ?_|refine ld one45 c4 ?_)
  refine ln und45 ?_
  refine LoopP.inv2 (fun n i w' => ∃ k : Nat, k ≤ d.waits.length ∧ i = .int .i64 k ∧ n = .int .i64 ((costL d.state + d.log.length + (d.waits.take k).flatten.length : Nat) : Int) ∧ Below w.heap.size w w') (fun _ i _ => d.waits.length - (intOf i).toNat)
    ⟨0, by omega, rfl, by simp, hdr⟩ ?_
  rintro _ _ w1 ⟨k, hk, rfl, rfl, hb1⟩ J hJ
  dsimp only [List.headD_cons, List.tail_cons]
  have hfl := Frame.flat_le d.waits k
  (first | refine bi_lss_c (fun h => ?_) (fun h => ?_) | refine bi_eql_c (fun h => ?_) (fun h => ?_) | refine bi_neq_c (fun h => ?_) (fun h => ?_) | refine bi_gtr_c (fun h => ?_) (fun h => ?_) | refine bi_leq_c (fun h => ?_) (fun h => ?_) | refine bi_geq_c (fun h => ?_) (fun h => ?_) | refine bi_seql_c (fun h => ?_) (fun h => ?_) | refine bi_sneq_c (fun h => ?_) (fun h => ?_))
  · have hk' : k < d.waits.length := by omega
    have hft := Frame.flat_take d.waits k hk'
    have hfl1 := Frame.flat_le d.waits (k + 1)
    obtain ⟨a, A', n', c', rfl, hca, hra⟩ := (hD.below hb1).ss.at k hk'
    obtain ⟨_, _, he, _⟩ := hra.slice
    simp only [Value.slice.injEq] at he
    obtain ⟨-, rfl, -⟩ := he
    rw [hft, List.length_append] at hfl1
    (repeat with_reducible first|refine ix1 und45 sz23 hk' ?_|refine ld one23 hca ?_|refine z_b ?_)
    refine ln und23 ?_
    (repeat with_reducible first|refine z_o (by omega) ?_)
    refine hJ _ _ _ ⟨k + 1, by omega, by simp, ?_, hb1⟩ (by simp [intOf]; omega)
    rw [hft, List.length_append]
    congr 1; omega
  · have hkl : k = d.waits.length := by omega
    subst hkl
    (repeat with_reducible first|refine z_c ?_)
    rw [List.take_length]
    exact ⟨by rw [hu], hb1⟩
theorem Waiting_spec (c : Nat → Nat) (w : World) (g : Nat) (d : Dk) (hD : DiskC c w g d) : CallP Try.prog 35 #[.pointer (some ⟨g, 0, none⟩)] (fun r w' => r = .int .i64 d.waits.length ∧ w = w') w := by
  obtain ⟨s, l, q, xs, hD⟩ := hD
  have c4 : w.cell? ⟨g, 4, none⟩ = some q := hD.blk.cell 4
  obtain ⟨A, cap, rfl, hc1, hc2⟩ := hD.ss.slice
  refine ⟨S35.calls _ _ _ ?_⟩
  unfold S35
  (repeat with_reducible first|refine fd f4 (by decide) ?_|refine ld one45 c4 ?_|refine z_a ?_)
  refine ln und45 ?_
  exact ⟨rfl, rfl⟩
/-- What Resize answers. -/
def resizeAns (d : Dk) (room : Int) : Nat := if room < 0 ∨ 4194304 < room then 1 else if room < d.used then 6 else 0
theorem Resize_spec (c : Nat → Nat) (w : World) (g : Nat) (d : Dk) (room : Int) (hD : DiskC c w g d) (hs : d.small) :
    CallP Try.prog 25 #[.pointer (some ⟨g, 0, none⟩), .int .i64 room] (fun r w' => r = .int .i64 (resizeAns d room) ∧ Left c w g (if resizeAns d room = 0 then { d with room := room.toNat } else d) w') w := by
  refine ⟨S25.calls _ _ _ _ ?_⟩
  unfold S25 resizeAns
  have stay : ∀ {w'}, Below w.heap.size w w' → Left c w g d w' := fun hb => ⟨c, fun _ _ => rfl, hD.below hb, Turns.of_below hb⟩
  (first | refine bi_lss_c (fun h => ?_) (fun h => ?_) | refine bi_eql_c (fun h => ?_) (fun h => ?_) | refine bi_neq_c (fun h => ?_) (fun h => ?_) | refine bi_gtr_c (fun h => ?_) (fun h => ?_) | refine bi_leq_c (fun h => ?_) (fun h => ?_) | refine bi_geq_c (fun h => ?_) (fun h => ?_) | refine bi_seql_c (fun h => ?_) (fun h => ?_) | refine bi_sneq_c (fun h => ?_) (fun h => ?_))
  · (repeat with_reducible first|refine z_b ?_|refine z_f ?_|refine z_k ?_)
    rw [if_pos (by omega)]
    exact ⟨rfl, stay (Below.refl _ _)⟩
  (repeat with_reducible first|refine z_d ?_)
  (first | refine bi_lss_c (fun h => ?_) (fun h => ?_) | refine bi_eql_c (fun h => ?_) (fun h => ?_) | refine bi_neq_c (fun h => ?_) (fun h => ?_) | refine bi_gtr_c (fun h => ?_) (fun h => ?_) | refine bi_leq_c (fun h => ?_) (fun h => ?_) | refine bi_geq_c (fun h => ?_) (fun h => ?_) | refine bi_seql_c (fun h => ?_) (fun h => ?_) | refine bi_sneq_c (fun h => ?_) (fun h => ?_))
  · (repeat with_reducible first|refine z_b ?_|refine z_l ?_)
    rw [if_pos (by omega)]
    exact ⟨rfl, stay (Below.refl _ _)⟩
  (repeat with_reducible first|refine z_c ?_|refine z_l ?_)
  refine (Used_spec c w g d hD hs).mono ?_
  rintro _ w1 ⟨rfl, hb1⟩
  (first | refine bi_lss_c (fun h => ?_) (fun h => ?_) | refine bi_eql_c (fun h => ?_) (fun h => ?_) | refine bi_neq_c (fun h => ?_) (fun h => ?_) | refine bi_gtr_c (fun h => ?_) (fun h => ?_) | refine bi_leq_c (fun h => ?_) (fun h => ?_) | refine bi_geq_c (fun h => ?_) (fun h => ?_) | refine bi_seql_c (fun h => ?_) (fun h => ?_) | refine bi_sneq_c (fun h => ?_) (fun h => ?_))
  · (repeat with_reducible first|refine z_b ?_)
    rw [if_neg (by omega), if_pos (by omega)]
    exact ⟨rfl, stay hb1⟩
  rw [if_neg (by omega), if_neg (by omega)]
  obtain ⟨n, rfl⟩ : ∃ n : Nat, room = n := ⟨room.toNat, by omega⟩
  obtain ⟨s, l, q, xs, hD⟩ := hD
  have h1 := hD.below hb1
  (repeat with_reducible first|refine fd f0 (by decide) ?_|refine z_a ?_|refine z_c ?_)
  refine st sz3 rfl (by rw [h1.blk.cell 0]; rfl) (h1.blk.frozen 0) ?_
  have hT := setT w1 g 0 (.int .i64 n)
  have hg := h1.hue
  rw [if_pos rfl, Int.toNat_natCast]
  obtain ⟨r1, r2, r3, r4⟩ := h1.rest hT
  exact ⟨rfl, c, fun _ _ => rfl, ⟨s, l, q, xs, hg, h1.blk.set_ 0 _, r1, h1.s2, r2, h1.l2, r3, h1.q2, h1.len, r4⟩, (Turns.of_below hb1).setCell (.inl (by rw [D, hg]; omega)) _⟩
end Go.Proofs.Ytadbpelpbaikiaa.E
