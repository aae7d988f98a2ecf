import Derived.Test.YtmnaggdhkggjhaaGreatDoorMa
namespace Go.Proofs.YtmnaggdhkggjhaaGreatDoor.E
open Go Go.RowKit
set_option linter.unusedSimpArgs false
set_option linter.unusedVariables false

def cellsOf (o : Option OneM) : Array Value := match o with
  | none => zeroRep.cells (.slice none 0 0) (.slice none 0 0)
  | some x => x.R.cells x.p x.q
def LookR (L : List OneM) (F : List (Int × Int)) (id n : Int) (o : Int × Option OneM) : Prop :=
  (badP id n = true ∧ o = (1, none)) ∨ (badP id n = false ∧ n ≤ floorOf F id ∧ o = (12, none)) ∨
  (badP id n = false ∧ ¬ n ≤ floorOf F id ∧ ((∃ x ∈ L, x.cl = id ∧ x.no = n ∧ o = (0, some x)) ∨ ((∀ x ∈ L, ¬ (x.cl = id ∧ x.no = n)) ∧ o = (7, none))))
theorem refLook_spec {hu : Nat} {c : Nat → Nat} {w : World} {g : Nat} {vL vF : Value} {L : List OneM} {F : List (Int × Int)} (id n : Int) (h : RefAt hu c w g vL vF L F) (hl : F.length ≤ 1000000) (hlL : L.length ≤ 100000) :
    CallP Tryz.prog 23 #[.pointer (some ⟨g, 0, none⟩), .int .i64 id, .int .i64 n] (fun r w' => ∃ o, LookR L F id n o ∧ r = .tuple #[.agg (cellsOf o.2), .int .i64 o.1] ∧ Below w.heap.size w w') w := by
  refine ⟨S23.calls _ _ _ _ _ ?_⟩
  unfold S23
  refine al z27 ?_
  have hR : Blk (w.alloc (.cells (Value.agg (zeroRep.cells (.slice none 0 0) (.slice none 0 0))).cells 39)) w.heap.size 39 (zeroRep.cells (.slice none 0 0) (.slice none 0 0)) := Blk.new w 39 _
  have ha := (Below.refl w.heap.size w).alloc (Nat.le_refl _) (.cells (Value.agg (zeroRep.cells (.slice none 0 0) (.slice none 0 0))).cells 39)
  generalize w.alloc (.cells (Value.agg (zeroRep.cells (.slice none 0 0) (.slice none 0 0))).cells 39) = w1 at *
  have h1 := h.below ha
  have tell : ∀ {w' : World}, Below w.heap.size w w' → Below w.heap.size w (w'.setRow w.heap.size (zeroRep.cells (.slice none 0 0) (.slice none 0 0))) := fun hb => below_setRow hb (Nat.le_refl _) _
  refine (refBad_spec id n w1).mono ?_
  rintro _ _ ⟨rfl, rfl⟩
  cases hbad : badP id n with
  | true =>
    (repeat with_reducible first|refine z_b ?_)
    refine bd (cells := zeroRep.cells (.slice none 0 0) (.slice none 0 0)) (by kernel_rfl) ?_
    refine stA hR (by exact sz27) (by rfl) (cellsR_one _ _ _ rfl rfl) ?_
    refine retA agg27 (hR.row _) (by exact sz27) ?_
    exact ⟨(1, none), .inl ⟨hbad, rfl⟩, rfl, tell ha⟩
  | false =>
    (repeat with_reducible first|refine z_c ?_)
    refine (refFloor_spec id h1 hl).mono ?_
    rintro _ _ ⟨rfl, rfl⟩
    refine bi_leq_c (fun hfl => ?_) (fun hfl => ?_)
    · (repeat with_reducible first|refine z_b ?_)
      refine bd (cells := zeroRep.cells (.slice none 0 0) (.slice none 0 0)) (by kernel_rfl) ?_
      refine stA hR (by exact sz27) (by rfl) (cellsR_one _ _ _ rfl rfl) ?_
      refine retA agg27 (hR.row _) (by exact sz27) ?_
      exact ⟨(12, none), .inr (.inl ⟨hbad, hfl, rfl⟩), rfl, tell ha⟩
    (repeat with_reducible first|refine z_c ?_)
    have hL := h1.rowL
    have c0 : w1.cell? ⟨g, 0, none⟩ = some vL := h1.blk.cell 0
    obtain ⟨A, cL, rfl, _, _⟩ := hL.slice
    refine LoopP.inv1 (fun iv w' => ∃ i : Nat, i ≤ L.length ∧ iv = .int .i64 i ∧ (∀ x ∈ L.take i, ¬ (x.cl = id ∧ x.no = n)) ∧ w1 = w') (fun iv _ => L.length - (intOf iv).toNat) ⟨0, by omega, rfl, by simp, rfl⟩ ?_
    rintro _ _ ⟨i, hi, rfl, hall, rfl⟩ J hJ
    dsimp only [List.headD_cons, List.tail_cons]
    (repeat with_reducible first|refine fd m0 (by decide) ?_|refine ld one42 c0 ?_|refine z_a ?_)
    refine ln und42 ?_
    refine bi_lss_c (fun hlt => ?_) (fun hlt => ?_)
    · have hi' : i < L.length := by omega
      obtain ⟨gL, cL', he, hcell⟩ := rowAt oneF_len hL i hi' (by decide)
      cases he
      have d0 : w1.cell? ⟨gL, i * 7 + 0, none⟩ = some (.int .i64 L[i].cl) := hcell 0 _ rfl
      have d1 : w1.cell? ⟨gL, i * 7 + 1, none⟩ = some (.int .i64 L[i].no) := hcell 1 _ rfl
      have hE := h1.el _ (List.getElem_mem hi')
      have next : (¬ (L[i].cl = id ∧ L[i].no = n)) → ∀ x ∈ L.take (i + 1), ¬ (x.cl = id ∧ x.no = n) := fun hn x hx => by
        rw [List.take_succ_eq_append_getElem hi'] at hx
        rcases List.mem_append.1 hx with hx | hx
        · exact hall x hx
        · simp only [List.mem_cons, List.not_mem_nil, or_false] at hx
          subst hx; exact hn
      (repeat with_reducible first|refine fd m0 (by decide) ?_|refine ld one42 c0 ?_|refine ixG und42 sz73 i hi' ?_|refine fdG o0 (by decide) ?_|refine ld one3 d0 ?_|refine z_a ?_|refine z_b ?_)
      refine bi_eql_c (fun he => ?_) (fun he => ?_)
      · (repeat with_reducible first|refine fd m0 (by decide) ?_|refine ld one42 c0 ?_|refine ixG und42 sz73 i hi' ?_|refine fdG o1 (by decide) ?_|refine ld one3 d1 ?_|refine z_a ?_|refine z_d ?_)
        refine bi_eql_c (fun hn => ?_) (fun hn => ?_)
        · (repeat with_reducible first|refine fd m0 (by decide) ?_|refine ld one42 c0 ?_|refine ixG und42 sz73 i hi' ?_|refine fdG o2 (by decide) ?_|refine z_a ?_|refine z_b ?_|refine z_k ?_)
          refine ldR (us := (L[i].R.cells L[i].p L[i].q).toList) agg27 (fun j u hu => ?_) (by rw [sz27]; rfl) ?_
          · rw [add0, Nat.add_assoc]
            exact hcell (2 + j) u (by rw [← hu, show 2 + j = j + 2 from by omega]; rfl)
          rw [Array.toArray_toList]
          refine stA hR (by exact sz27) (by rfl) (cellsR_one _ _ _ hE.one hE.oneq) ?_
          refine retA agg27 (hR.row _) (by exact sz27) ?_
          exact ⟨(0, some L[i]), .inr (.inr ⟨hbad, hfl, .inl ⟨L[i], List.getElem_mem hi', he, hn, rfl⟩⟩), rfl, below_setRow ha (Nat.le_refl _) _⟩
        · (repeat with_reducible first|refine z_c ?_|refine z_k ?_|refine z_o (by omega) ?_)
          exact hJ _ _ ⟨i + 1, by omega, by simp, next (fun e => hn e.2), rfl⟩ (by simp [intOf]; omega)
      · (repeat with_reducible first|refine z_c ?_|refine z_e ?_|refine z_l ?_|refine z_o (by omega) ?_)
        exact hJ _ _ ⟨i + 1, by omega, by simp, next (fun e => he e.1), rfl⟩ (by simp [intOf]; omega)
    · (repeat with_reducible first|refine z_c ?_)
      have : i = L.length := by omega
      subst this
      rw [List.take_length] at hall
      refine bd (cells := zeroRep.cells (.slice none 0 0) (.slice none 0 0)) (by kernel_rfl) ?_
      refine stA hR (by exact sz27) (by rfl) (cellsR_one _ _ _ rfl rfl) ?_
      refine retA agg27 (hR.row _) (by exact sz27) ?_
      exact ⟨(7, none), .inr (.inr ⟨hbad, hfl, .inr ⟨hall, rfl⟩⟩), rfl, tell ha⟩
theorem ElAt.re' {c c' : Nat → Nat} {w : World} {x : OneM} (h : ElAt c w x) (hc : ∀ k, x.p.ownBlock = some k → c' k = c k) : ElAt c' w x := ⟨h.own, fun k hk => by rw [hc k hk]; exact h.hue k hk, h.ok, h.len, h.rows⟩
theorem OwnR.cutFrom {s : Nat} {e : TypeId} {w : World} {A : Option Addr} {c : Nat} {α : Type} {f : α → List Value} {l : List α} (hf : ∀ x, (f x).length = s) (hs : 0 < s) (h : OwnR s e w (.slice A l.length c) l.length (l.flatMap f)) (j : Nat) (hj : j ≤ l.length) :
    rRow s (fun _ us x => us = f x) w [sliced A j l.length c s] (l.drop j) := by
  obtain ⟨A', c', he, hc, hm⟩ := h.slice
  cases he
  refine ⟨_, _, by rw [List.length_drop]; rfl, by rw [List.length_drop]; omega, by omega, fun i x hx => ?_⟩
  have hi : j + i < l.length := by
    have := (List.getElem?_eq_some_iff.1 hx).1
    rw [List.length_drop] at this; omega
  obtain ⟨g, c2, he, hcell⟩ := rowAt hf h (j + i) hi hs
  cases he
  rw [List.getElem?_drop, List.getElem?_eq_getElem hi] at hx
  cases hx
  refine ⟨⟨g, j * s, none⟩, f l[j + i], ?_, hf _, fun k u hu => ?_, rfl⟩
  · rw [if_neg (by omega), Option.map_some, add0, Nat.zero_add]
  · rw [add0, ← Nat.add_assoc, ← Nat.add_mul]
    exact hcell k u hu
theorem apOne {P : Program} {K : Value → World → Prop} {w : World} {t ty e : TypeId} {cs : Array Bool} {z : Value} {size bytes : Nat} (ht : P.underlying t = some (.slice e)) (hinfo : (P.info? e).map (fun i => (i.zero, i.size, i.bytes)) = some (some z, size, bytes)) (hz : z.cells.size = size) (hsz : 0 < size)
    {v : Value} {xs : List Value} {n : Nat} (hown : w.ownsRow 0 e size v n xs) {us : List Value} (hl : us.length = size) (h1 : ∀ u ∈ us, u.oneCell' = true) (h63 : n + 1 ≤ 9223372036854775807) (hbytes : (n + 1) * bytes ≤ 140737488355328)
    (hb : (Instr.buildSlice t 1 #[(0, .agg us.toArray)]).run P w = .ok (.slice (some ⟨w.heap.size, 0, none⟩) 1 1) (w.alloc (.cells us.toArray e)))
    (k : ∀ v' w', w'.ownsRow 0 e size v' (n + 1) (xs ++ us) → (v'.ownBlock = v.ownBlock ∨ ∃ b, v'.ownBlock = some b ∧ w.heap.size ≤ b) → Turns (fun j => v.ownBlock = some j) w w' → K v' w') :
    LiftP P (Instr.buildSlice t 1 #[(0, .agg us.toArray)]) (fun u w => NextP P (builtin .append #[t, t] ty cs #[v, u]) K w) w := by
  refine lift hb ?_
  have hB := Blk.new w e us.toArray
  have ha := (Below.refl w.heap.size w).alloc (Nat.le_refl _) (.cells us.toArray e)
  have hs := ha.size
  refine apGb ht hinfo hz hsz (ownsRow_turns hown (Turns.of_below (F := fun _ => False) ha) (fun _ _ h => h)) (a := ⟨w.heap.size, 0, none⟩) (m := 1) (c := 1) (news := us) (by rw [hl, Nat.one_mul]) (fun j u hu => by
    rw [add0, Nat.zero_add, hB.cell j]
    simpa using hu) h1 h63 hbytes ?_
  intro v' w' ho hbl hT
  refine k v' w' ho (hbl.imp id fun h => ⟨_, h, hs⟩) ((Turns.of_below ha).trans (hT.mono fun j _ e => .inl e))
theorem Fresh.one {B : Nat} {w : World} {v v' : Value} (h : Fresh B v) (hB : B ≤ w.heap.size) (hbl : v'.ownBlock = v.ownBlock ∨ ∃ b, v'.ownBlock = some b ∧ w.heap.size ≤ b) : Fresh B v' := fun k hk => by
  rcases hbl with e | ⟨b, e, hb⟩
  · exact h k (by rw [← e]; exact hk)
  · rw [e] at hk; cases hk; omega
theorem Turns.fresh {B : Nat} {w w' : World} {v : Value} (hT : Turns (fun j => v.ownBlock = some j) w w') (h : Fresh B v) (hB : B ≤ w.heap.size) : Below B w w' := hT.below hB fun k hk e => by have := h k e; omega
def putF (id n : Int) : List (Int × Int) → List (Int × Int)
  | [] => [(id, n)]
  | (a, m) :: r => if a < id then (a, m) :: putF id n r else if a = id then (id, n) :: r else (id, n) :: (a, m) :: r
theorem putF_split (id n : Int) : ∀ (F : List (Int × Int)) (i : Nat) (hi : i ≤ F.length), (∀ p ∈ F.take i, p.1 < id) → (∀ h : i < F.length, ¬ F[i].1 < id) →
    F.take i ++ (id, n) :: F.drop (if h : i < F.length then (if F[i].1 = id then i + 1 else i) else i) = putF id n F
  | [], i, hi, _, _ => by
    have : i = 0 := by simpa using hi
    subst this; rfl
  | (a, m) :: r, 0, _, _, h2 => by
    have h2 : ¬ a < id := h2 (by simp)
    rw [putF, if_neg h2]
    simp only [List.length_cons, Nat.zero_lt_succ, dite_true, List.getElem_cons_zero, List.take_zero, List.nil_append]
    split <;> rfl
  | (a, m) :: r, i + 1, hi, h1, h2 => by
    have ha : a < id := h1 (a, m) (by simp)
    rw [putF, if_pos ha, ← putF_split id n r i (by simpa using hi) (fun p hp => h1 p (by simp [hp])) (fun h => h2 (Nat.succ_lt_succ h))]
    simp only [List.take_succ_cons, List.cons_append, List.length_cons, Nat.add_lt_add_iff_right, List.getElem_cons_succ]
    congr 3
    split
    · split <;> simp
    · simp
def raiseF (F : List (Int × Int)) (id n : Int) : List (Int × Int) := if floorOf F id < n then putF id n F else F
def raiseL (L : List OneM) (id fl : Int) : List OneM := L.filter fun x => decide (x.cl ≠ id) || decide (fl < x.no)
end Go.Proofs.YtmnaggdhkggjhaaGreatDoor.E
namespace Go.Proofs.YtmnaggdhkggjhaaGreatDoor.E
open Go Go.RowKit
set_option linter.unusedSimpArgs false
set_option linter.unusedVariables false

theorem flF_one (x : Int × Int) : ∀ u ∈ flF x, u.oneCell' = true := by
  intro u hu
  simp only [flF, List.mem_cons, List.not_mem_nil, or_false] at hu
  rcases hu with rfl | rfl <;> rfl
theorem oneF_one {c : Nat → Nat} {w : World} {x : OneM} (h : ElAt c w x) : ∀ u ∈ oneF x, u.oneCell' = true := by
  intro u hu
  simp only [oneF, List.mem_cons, List.not_mem_nil, or_false] at hu
  rcases hu with rfl | rfl | rfl | rfl | rfl | rfl | rfl <;> first | rfl | exact h.one | exact h.oneq
theorem set45a (a b u : Value) : (#[a, b] : Array Value).setIfInBounds 0 u = #[u, b] := rfl
theorem set45b (a b u : Value) : (#[a, b] : Array Value).setIfInBounds 1 u = #[a, u] := rfl
/-- The floors raised; the answers as they were. -/
structure MidAt (hu : Nat) (c : Nat → Nat) (w0 : World) (w : World) (g : Nat) (vL vF : Value) (L : List OneM) (F : List (Int × Int)) : Prop where
  ref : RefAt hu (col c w0.heap.size hu) w g vL vF L F
  turn : Turns (fun k => k = g) w0 w
theorem raiseF_step {hu : Nat} {c : Nat → Nat} {w : World} {g : Nat} {vL vF : Value} {L : List OneM} {F : List (Int × Int)} (id n : Int) (h : RefAt hu c w g vL vF L F) (hl : F.length ≤ 100000) {K : World → Prop}
    (k : ∀ vF' w', MidAt hu c w w' g vL vF' L (putF id n F) → K w') :
      LoopP (fun J_1 vs_1 w =>
        NextP Tryz.prog (nilChk (.pointer (some ⟨g, 0, none⟩))) (fun v17 w =>
        LiftP Tryz.prog (Instr.fieldAt 32 v17 1) (fun v18 w =>
        LiftP Tryz.prog (Instr.loadAt 30 v18) (fun v19 w =>
        NextP Tryz.prog (builtin Go.Builtin.len #[30] 3 #[false] #[v19]) (fun v20 w =>
        LiftP Tryz.prog (binS Go.BinOp.lss 3 (Go.Operand.tmp 15) (Go.Operand.tmp 20) (vs_1.tail.headD undef) v20) (fun v21 w =>
        GuardP v21 true (fun K w => K (.pointer (some ⟨g, 0, none⟩)) w) (fun v23 w =>
        GuardP v21 true (fun K w => NextP Tryz.prog (nilChk v23) K w) (fun v24 w =>
        GuardP v21 true (fun K w => LiftP Tryz.prog (Instr.fieldAt 32 v24 1) K w) (fun v25 w =>
        GuardP v21 true (fun K w => LiftP Tryz.prog (Instr.loadAt 30 v25) K w) (fun v26 w =>
        GuardP v21 true (fun K w => K (vs_1.tail.headD undef) w) (fun v27 w =>
        GuardP v21 true (fun K w => LiftP Tryz.prog (Instr.indexAt 30 v26 v27) K w) (fun v28 w =>
        GuardP v21 true (fun K w => LiftP Tryz.prog (Instr.fieldAt 88 v28 0) K w) (fun v29 w =>
        GuardP v21 true (fun K w => LiftP Tryz.prog (Instr.loadAt 3 v29) K w) (fun v30 w =>
        GuardP v21 true (fun K w => K (.int .i64 id) w) (fun v31 w =>
        GuardP v21 true (fun K w => LiftP Tryz.prog (binS Go.BinOp.lss 3 (Go.Operand.tmp 30) (Go.Operand.tmp 31) v30 v31) K w) (fun v32 w =>
        PickP v21 v32 (Go.Value.bool false) (fun v33 w =>
        CondP v33 (fun w =>
          NextP Tryz.prog (nilChk (.pointer (some ⟨g, 0, none⟩))) (fun v36 w =>
        LiftP Tryz.prog (Instr.fieldAt 32 v36 1) (fun v37 w =>
        LiftP Tryz.prog (Instr.loadAt 30 v37) (fun v38 w =>
        LiftP Tryz.prog (Instr.indexAt 30 v38 (vs_1.tail.headD undef)) (fun v40 w =>
        LiftP Tryz.prog (Instr.loadAt 88 v40) (fun v41 w =>
        LiftP Tryz.prog (Instr.buildSlice 30 1 #[(0, v41)]) (fun v42 w =>
        NextP Tryz.prog (builtin Go.Builtin.append #[30, 30] 30 #[false, false] #[(vs_1.headD undef), v42]) (fun v43 w =>
        LiftP Tryz.prog (binS Go.BinOp.add 3 (Go.Operand.tmp 44) (Go.Operand.const (Go.Value.int Go.IntKind.i64 1)) (vs_1.tail.headD undef) (Go.Value.int Go.IntKind.i64 1)) (fun v45 w =>
        J_1 [v43, v45] w) w) w) w) w) w) w) w) w) (fun w =>
          LiftP Tryz.prog (Instr.build 88 #[(0, (.int .i64 id)), (1, (.int .i64 n))]) (fun v49 w =>
      LiftP Tryz.prog (Instr.buildSlice 30 1 #[(0, v49)]) (fun v50 w =>
      NextP Tryz.prog (builtin Go.Builtin.append #[30, 30] 30 #[false, false] #[(vs_1.headD undef), v50]) (fun v51 w =>
      JoinP (fun J_2 w =>
        NextP Tryz.prog (nilChk (.pointer (some ⟨g, 0, none⟩))) (fun v54 w =>
        LiftP Tryz.prog (Instr.fieldAt 32 v54 1) (fun v55 w =>
        LiftP Tryz.prog (Instr.loadAt 30 v55) (fun v56 w =>
        NextP Tryz.prog (builtin Go.Builtin.len #[30] 3 #[false] #[v56]) (fun v57 w =>
        LiftP Tryz.prog (binS Go.BinOp.lss 3 (Go.Operand.tmp 52) (Go.Operand.tmp 57) (vs_1.tail.headD undef) v57) (fun v58 w =>
        GuardP v58 true (fun K w => K (.pointer (some ⟨g, 0, none⟩)) w) (fun v60 w =>
        GuardP v58 true (fun K w => NextP Tryz.prog (nilChk v60) K w) (fun v61 w =>
        GuardP v58 true (fun K w => LiftP Tryz.prog (Instr.fieldAt 32 v61 1) K w) (fun v62 w =>
        GuardP v58 true (fun K w => LiftP Tryz.prog (Instr.loadAt 30 v62) K w) (fun v63 w =>
        GuardP v58 true (fun K w => K (vs_1.tail.headD undef) w) (fun v64 w =>
        GuardP v58 true (fun K w => LiftP Tryz.prog (Instr.indexAt 30 v63 v64) K w) (fun v65 w =>
        GuardP v58 true (fun K w => LiftP Tryz.prog (Instr.fieldAt 88 v65 0) K w) (fun v66 w =>
        GuardP v58 true (fun K w => LiftP Tryz.prog (Instr.loadAt 3 v66) K w) (fun v67 w =>
        GuardP v58 true (fun K w => K (.int .i64 id) w) (fun v68 w =>
        GuardP v58 true (fun K w => LiftP Tryz.prog (binS Go.BinOp.eql 3 (Go.Operand.tmp 67) (Go.Operand.tmp 68) v67 v68) K w) (fun v69 w =>
        PickP v58 v69 (Go.Value.bool false) (fun v70 w =>
        CondP v70 (fun w =>
          LiftP Tryz.prog (binS Go.BinOp.add 3 (Go.Operand.tmp 71) (Go.Operand.const (Go.Value.int Go.IntKind.i64 1)) (vs_1.tail.headD undef) (Go.Value.int Go.IntKind.i64 1)) (fun v72 w =>
          J_2 [v72] w) w) (fun w =>
          J_2 [(vs_1.tail.headD undef)] w) w) w) w) w) w) w) w) w) w) w) w) w) w) w) w) w) w) (fun vs_2 w =>   -- [7]
      NextP Tryz.prog (nilChk (.pointer (some ⟨g, 0, none⟩))) (fun v76 w =>
      LiftP Tryz.prog (Instr.fieldAt 32 v76 1) (fun v77 w =>
      LiftP Tryz.prog (Instr.loadAt 30 v77) (fun v78 w =>
      LiftP Tryz.prog (Instr.sliceAt 30 v78 (some (vs_2.headD undef)) none none) (fun v80 w =>
      NextP Tryz.prog (builtin Go.Builtin.append #[30, 30] 30 #[false, false] #[v51, v80]) (fun v81 w =>
      NextP Tryz.prog (nilChk (.pointer (some ⟨g, 0, none⟩))) (fun v82 w =>
      LiftP Tryz.prog (Instr.fieldAt 32 v82 1) (fun v83 w =>
      LiftU Tryz.prog (Instr.storeAt 30 v83 v81) (fun v_ w =>
      K w) w) w) w) w) w) w) w) w) w) w) w) w) w) w) w) w) w) w) w) w) w) w) w) w) w) w) w) w) w) [(Go.Value.slice none 0 0), (Go.Value.int Go.IntKind.i64 0)] w := by
  have hF0 := h.rowF
  obtain ⟨A, cF, rfl, hcF, hmF⟩ := hF0.slice
  have hl0 := h.blk.lt
  refine LoopP.inv2 (fun fv iv w' => ∃ i : Nat, i ≤ F.length ∧ iv = .int .i64 i ∧ (∀ p ∈ F.take i, p.1 < id) ∧ w'.ownsRow 0 88 2 fv i ((F.take i).flatMap flF) ∧ Fresh w.heap.size fv ∧ Below w.heap.size w w') (fun _ iv _ => F.length - (intOf iv).toNat)
    ⟨0, by omega, rfl, by simp, ⟨by simp, .inl ⟨rfl, rfl⟩⟩, Fresh.nil _, Below.refl _ _⟩ ?_
  rintro fv _ w1 ⟨i, hi, rfl, hall, hown, hfr, hb1⟩ J hJ
  dsimp only [List.headD_cons, List.tail_cons]
  have h1 := h.below hb1
  have hF := h1.rowF
  have hs1 := hb1.size
  have c1 : w1.cell? ⟨g, 1, none⟩ = some (.slice A F.length cF) := h1.blk.cell 1
  (repeat with_reducible first|refine fd m1 (by decide) ?_|refine ld one43 c1 ?_|refine z_a ?_)
  refine ln und43 ?_
  refine bi_lss_c (fun hlt => ?a) (fun hlt => ?b)
  case' a =>
    have hi' : i < F.length := by omega
    obtain ⟨gF, cF', he, hcell⟩ := rowAt flF_len hF i hi' (by decide)
    cases he
    have d0 : w1.cell? ⟨gF, i * 2 + 0, none⟩ = some (.int .i64 F[i].1) := hcell 0 _ rfl
    (repeat with_reducible first|refine fd m1 (by decide) ?_|refine ld one43 c1 ?_|refine ixG und43 sz84 i hi' ?_|refine fdG f0 (by decide) ?_|refine ld one3 d0 ?_|refine z_a ?_|refine z_d ?_)
    refine bi_lss_c (fun h2 => ?a1) (fun h2 => ?a2)
  case a1 =>
    (repeat with_reducible first|refine fd m1 (by decide) ?_|refine ld one43 c1 ?_|refine ixG und43 sz84 i hi' ?_|refine z_a ?_|refine z_b ?_|refine z_k ?_)
    refine ldR (us := flF F[i]) agg84 (fun j u hu => by rw [add0]; exact hcell j u hu) (by rw [sz84]; rfl) ?_
    refine apOne und43 inf84 (by rfl) (by decide) hown (flF_len _) (flF_one _) (by omega) (by omega) (by kernel_rfl) ?_
    intro v2 w2 ho2 hbl2 hT2
    (repeat with_reducible first|refine z_o (by omega) ?_)
    refine hJ _ _ _ ⟨i + 1, by omega, by simp, fun p hp => ?_, ?_, hfr.one hs1 hbl2, hb1.trans (hT2.fresh hfr hs1)⟩ (by simp [intOf]; omega)
    · rw [List.take_succ_eq_append_getElem hi'] at hp
      rcases List.mem_append.1 hp with hp | hp
      · exact hall p hp
      · simp only [List.mem_cons, List.not_mem_nil, or_false] at hp
        subst hp; exact h2
    · rw [List.take_succ_eq_append_getElem hi', List.flatMap_append]
      simpa using ho2
  case' a2 => have hstop : ∀ h : i < F.length, ¬ F[i].1 < id := fun _ => h2
  case' b => have hstop : ∀ h : i < F.length, ¬ F[i].1 < id := fun h => absurd h (by omega)
  all_goals
    (repeat with_reducible first|refine z_c ?_|refine z_e ?_|refine z_k ?_|refine z_l ?_)
    refine bd (cells := (flF (id, n)).toArray) (by kernel_rfl) ?_
    refine apOne und43 inf84 (by rfl) (by decide) hown (flF_len _) (flF_one _) (by omega) (by omega) (by kernel_rfl) ?_
    intro v2 w2 ho2 hbl2 hT2
    have hfr2 := hfr.one hs1 hbl2
    have hb2 := hb1.trans (hT2.fresh hfr hs1)
    have h2' := h.below hb2
    have hs2 := hb2.size
    have hF2 := h2'.rowF
    have e1 : w2.cell? ⟨g, 1, none⟩ = some (.slice _ F.length cF) := h2'.blk.cell 1
    refine JoinP.cut (fun xs w' => xs = [.int .i64 (if h : i < F.length then (if F[i].1 = id then i + 1 else i) else i : Nat)] ∧ w2 = w') (fun J2 hJ2 => ?_) (fun xs w' hI => ?_)
    · (repeat with_reducible first|refine fd m1 (by decide) ?_|refine ld one43 e1 ?_|refine z_a ?_)
      refine ln und43 ?_
      refine bi_lss_c (fun h3 => ?_) (fun h3 => ?_)
      · first
        | (exfalso; omega)
        | (have hi' : i < F.length := by omega
           obtain ⟨gF, cF', he, hcell⟩ := rowAt flF_len hF2 i hi' (by decide)
           cases he
           have d0 : w2.cell? ⟨gF, i * 2 + 0, none⟩ = some (.int .i64 F[i].1) := hcell 0 _ rfl
           (repeat with_reducible first|refine fd m1 (by decide) ?_|refine ld one43 e1 ?_|refine ixG und43 sz84 i hi' ?_|refine fdG f0 (by decide) ?_|refine ld one3 d0 ?_|refine z_a ?_|refine z_d ?_)
           refine bi_eql_c (fun h4 => ?_) (fun h4 => ?_)
           · (repeat with_reducible first|refine z_b ?_|refine z_k ?_|refine z_o (by omega) ?_)
             refine hJ2 _ _ ⟨?_, rfl⟩
             rw [dif_pos hi', if_pos h4]; simp
           · (repeat with_reducible first|refine z_c ?_|refine z_k ?_)
             refine hJ2 _ _ ⟨?_, rfl⟩
             rw [dif_pos hi', if_neg h4])
      · (repeat with_reducible first|refine z_c ?_|refine z_e ?_|refine z_l ?_)
        refine hJ2 _ _ ⟨?_, rfl⟩
        rw [dif_neg (by omega)]
    · obtain ⟨rfl, rfl⟩ := hI
      dsimp only [List.headD_cons, List.tail_cons]
      have hsplit := putF_split id n F i hi hall hstop
      generalize hj : (if h : i < F.length then (if F[i].1 = id then i + 1 else i) else i : Nat) = j at *
      have hjl : j ≤ F.length := by
        rw [← hj]
        by_cases hlt' : i < F.length
        · rw [dif_pos hlt']; split <;> omega
        · rw [dif_neg hlt']; exact hi
      (repeat with_reducible first|refine fd m1 (by decide) ?_|refine ld one43 e1 ?_|refine z_a ?_)
      refine ofPR (pr_cut und43 sz84 (.at _ _) .no .no hjl (fun _ => hjl) hcF (Nat.le_refl _) (.inl rfl)) ?_
      have hcut := hF2.cutFrom flF_len (by decide) j hjl
      refine apR w.heap.size und43 inf84 (by rfl) (by decide) ho2 hfr2 hs2 flF_len flF_one (fun _ _ _ h => h) hcut (by rw [List.length_drop]; omega) (by rw [List.length_drop]; omega) ?_
      intro v3 w3 ho3 hf3 hb3 _
      have hb3' := hb2.trans hb3
      have h3 := h.below hb3'
      have hs3 := hb3'.size
      have h1v : v3.oneCell' = true := by
        rcases ho3.2 with ⟨e, _⟩ | ⟨g3, c3, _, e, _⟩ <;> rw [e] <;> rfl
      (repeat with_reducible first|refine fd m1 (by decide) ?_|refine z_a ?_)
      refine st sz43 h1v (by rw [h3.blk.cell 1]; rfl) (h3.blk.frozen 1) ?_
      have hT4 := Turns.setCell (F := fun k => k = g) (p := ⟨g, 1, none⟩) (Turns.refl _ w3) (.inl rfl) v3
      have hB4 := h3.blk.set_ 1 v3
      rw [set45b] at hB4
      have hcol := col_lt c w.heap.size hu
      have hlen : i + 1 + (F.drop j).length = (putF id n F).length := by rw [← hsplit]; simp; omega
      have hcs : ((F.take i).flatMap flF ++ flF (id, n)) ++ (F.drop j).flatMap flF = (putF id n F).flatMap flF := by rw [← hsplit]; simp [List.flatMap_append]
      rw [hlen, hcs] at ho3
      have hne : ∀ k, v3.ownBlock = some k → k ≠ g := fun k hk e => by have := hf3 k hk; omega
      have hnL : ∀ k, vL.ownBlock = some k → k ≠ g := fun k hk e => by
        rcases h3.rowL.2 with ⟨h, _⟩ | ⟨g', _, _, h, hbl, _⟩
        · rw [h] at hk; cases hk
        · rw [h] at hk
          have : g' = k := by simpa [Value.ownBlock] using hk
          exact blk_ne hbl h3.blk (by decide) (by rw [this, e])
      refine k v3 _ ⟨⟨h.hh, (hcol g hl0).trans h.hue, hB4, h3.rowL.turns hT4 hnL, (OwnR.of_own ho3).turns hT4 hne, fun k hk => by rw [hcol k (h.rowL.lt hk)]; exact h.hueL k hk, fun k hk => col_ge _ _ _ (hf3 k hk), fun x hx => ?_⟩, (Turns.of_below hb3').trans (hT4.mono fun j _ e => .inl e)⟩
      have hx0 := h.el x hx
      have hx3 := (h3.el x hx)
      refine (hx3.turns hT4 (fun k e => ?_)).re' ?_
      · rw [e, h.hue]; have := h.hh; omega
      · exact fun k hk => hcol k (hx0.own.lt hk)
end Go.Proofs.YtmnaggdhkggjhaaGreatDoor.E
namespace Go.Proofs.YtmnaggdhkggjhaaGreatDoor.E
open Go Go.RowKit
set_option linter.unusedSimpArgs false
set_option linter.unusedVariables false

theorem RefAt.neF {hu : Nat} {c : Nat → Nat} {w : World} {g : Nat} {vL vF : Value} {L : List OneM} {F : List (Int × Int)} (h : RefAt hu c w g vL vF L F) : ∀ k, vF.ownBlock = some k → k ≠ g := fun k hk e => by
  rcases h.rowF.2 with ⟨h, _⟩ | ⟨g', _, _, h', hbl, _⟩
  · rw [h] at hk; cases hk
  · rw [h'] at hk
    have : g' = k := by simpa [Value.ownBlock] using hk
    exact blk_ne hbl h.blk (by decide) (by rw [this, e])
theorem own1 {s : Nat} {e : TypeId} {w : World} {v : Value} {n : Nat} {xs : List Value} (h : w.ownsRow 0 e s v n xs) : v.oneCell' = true := by
  rcases h.2 with ⟨e, _⟩ | ⟨g3, c3, _, e, _⟩ <;> rw [e] <;> rfl
/-- A new row of answers is put in place. -/
theorem RefAt.setL {hu : Nat} {c : Nat → Nat} {B : Nat} {w : World} {g : Nat} {vL vF v : Value} {L L' : List OneM} {F : List (Int × Int)} (h : RefAt hu (col c B hu) w g vL vF L F) (ho : w.ownsRow 0 67 7 v L'.length (L'.flatMap oneF)) (hf : Fresh B v) (hg : g < B) (hel : ∀ x ∈ L', ElAt (col c B hu) w x) :
    RefAt hu (col c B hu) (w.setCell ⟨g, 0, none⟩ v) g v vF L' F ∧ Turns (fun k => k = g) w (w.setCell ⟨g, 0, none⟩ v) := by
  have hT := Turns.setCell (F := fun k => k = g) (p := ⟨g, 0, none⟩) (Turns.refl _ w) (.inl rfl) v
  have hB := h.blk.set_ 0 v
  rw [set45a] at hB
  refine ⟨⟨h.hh, h.hue, hB, (OwnR.of_own ho).turns hT fun k hk e => by have := hf k hk; omega, h.rowF.turns hT h.neF, fun k hk => col_ge _ _ _ (hf k hk), h.hueF, fun x hx => (hel x hx).turns hT fun k e => ?_⟩, hT⟩
  rw [e, h.hue]; have := h.hh; omega
theorem raise_spec {hu : Nat} {c : Nat → Nat} {w : World} {g : Nat} {vL vF : Value} {L : List OneM} {F : List (Int × Int)} (id n : Int) (h : RefAt hu c w g vL vF L F) (hl : F.length ≤ 90000) (hlL : L.length ≤ 100000) :
    CallP Tryz.prog 50 #[.pointer (some ⟨g, 0, none⟩), .int .i64 id, .int .i64 n] (fun r w' => ∃ vL' vF', RefAt hu (col c w.heap.size hu) w' g vL' vF' (raiseL L id (floorOf (raiseF F id n) id)) (raiseF F id n) ∧ Turns (fun k => k = g) w w') w := by
  refine ⟨S50.calls _ _ _ _ _ ?_⟩
  unfold S50
  have hgl := h.blk.lt
  refine JoinP.cut (fun xs w1 => xs = [] ∧ ∃ vF', MidAt hu c w w1 g vL vF' L (raiseF F id n)) (fun J hJ => ?_) (fun xs w1 hI => ?_)
  · refine (refFloor_spec id h (by omega)).mono ?_
    rintro _ _ ⟨rfl, rfl⟩
    refine bi_gtr_c (fun hgt => ?_) (fun hgt => ?_)
    · (repeat with_reducible first|refine z_b ?_)
      refine raiseF_step id n h (by omega) ?_
      intro vF' w' hm
      refine hJ _ _ ⟨rfl, vF', ?_⟩
      rw [raiseF, if_pos hgt]; exact hm
    · (repeat with_reducible first|refine z_c ?_)
      refine hJ _ _ ⟨rfl, vF, ?_⟩
      rw [raiseF, if_neg hgt]
      exact ⟨h.re (col_lt _ _ _), Turns.refl _ _⟩
  · obtain ⟨rfl, vF', hm, hT1⟩ := hI
    have hlF : (raiseF F id n).length ≤ 1000000 := by
      have : ∀ F : List (Int × Int), (putF id n F).length ≤ F.length + 1 := by
        intro F
        induction F with
        | nil => simp [putF]
        | cons p r ih =>
          obtain ⟨a, m⟩ := p
          rw [putF]
          split
          · simp; exact ih
          · split <;> simp
      have := this F
      unfold raiseF
      split <;> omega
    generalize raiseF F id n = F' at *
    have hs1 := hT1.size
    have hL0 := hm.rowL
    obtain ⟨A, cL, rfl, hcL, _⟩ := hL0.slice
    have hlt1 := hm.blk.lt
    refine LoopP.inv2 (fun fv iv w' => ∃ i : Nat, i ≤ L.length ∧ iv = .int .i64 i ∧ w'.ownsRow 0 67 7 fv (raiseL (L.take i) id (floorOf F' id)).length ((raiseL (L.take i) id (floorOf F' id)).flatMap oneF) ∧ Fresh w1.heap.size fv ∧ Below w1.heap.size w1 w') (fun _ iv _ => L.length - (intOf iv).toNat)
      ⟨0, by omega, rfl, ⟨by simp [raiseL], .inl ⟨rfl, by simp [raiseL]⟩⟩, Fresh.nil _, Below.refl _ _⟩ ?_
    rintro fv _ w2 ⟨i, hi, rfl, hown, hfr, hb2⟩ J hJ
    dsimp only [List.headD_cons, List.tail_cons]
    have h2 := hm.below hb2
    have hL := h2.rowL
    have hs2 := hb2.size
    have c0 : w2.cell? ⟨g, 0, none⟩ = some (.slice A L.length cL) := h2.blk.cell 0
    (repeat with_reducible first|refine fd m0 (by decide) ?_|refine ld one42 c0 ?_|refine z_a ?_)
    refine ln und42 ?_
    refine bi_lss_c (fun hlt => ?_) (fun hlt => ?_)
    · have hi' : i < L.length := by omega
      obtain ⟨gL, cL', he, hcell⟩ := rowAt oneF_len hL i hi' (by decide)
      cases he
      have d0 : w2.cell? ⟨gL, i * 7 + 0, none⟩ = some (.int .i64 L[i].cl) := hcell 0 _ rfl
      have d1 : w2.cell? ⟨gL, i * 7 + 1, none⟩ = some (.int .i64 L[i].no) := hcell 1 _ rfl
      have hstep : raiseL (L.take (i + 1)) id (floorOf F' id) = raiseL (L.take i) id (floorOf F' id) ++ (if (decide (L[i].cl ≠ id) || decide (floorOf F' id < L[i].no)) = true then [L[i]] else []) := by
        unfold raiseL
        rw [List.take_succ_eq_append_getElem hi', List.filter_append]
        congr 1
        rw [List.filter_cons, List.filter_nil]
      have hll : (raiseL (L.take i) id (floorOf F' id)).length ≤ L.length := Nat.le_trans (List.length_filter_le _ _) (by rw [List.length_take]; omega)
      (repeat with_reducible first|refine z_b ?_)
      refine JoinP.cut (fun xs w' => ∃ rv', xs = [rv'] ∧ w'.ownsRow 0 67 7 rv' (raiseL (L.take (i + 1)) id (floorOf F' id)).length ((raiseL (L.take (i + 1)) id (floorOf F' id)).flatMap oneF) ∧ Fresh w1.heap.size rv' ∧ Below w1.heap.size w1 w') (fun J1 hJ1 => ?_) (fun xs w' hI => ?_)
      · have hdr : Below w2.heap.size w2 w2.drew := (Below.refl _ _).drew
        have s0 : ∀ w', Below w2.heap.size w2 w' → w'.cell? ⟨g, 0, none⟩ = some (.slice (some ⟨gL, 0, none⟩) L.length cL) := fun w' h => (h2.blk.below' h).cell 0
        have s1 : ∀ w', Below w2.heap.size w2 w' → w'.cell? ⟨gL, i * 7 + 0, none⟩ = some (.int .i64 L[i].cl) := fun w' h => by rw [h.cell (World.block_lt_of_cell? _ _ d0), d0]
        have s2 : ∀ w', Below w2.heap.size w2 w' → w'.cell? ⟨gL, i * 7 + 1, none⟩ = some (.int .i64 L[i].no) := fun w' h => by rw [h.cell (World.block_lt_of_cell? _ _ d1), d1]
        have h2d := h2.below hdr
        have hL2d := h2d.rowL
        obtain ⟨gL', cL2, he, hcelld⟩ := rowAt oneF_len hL2d i hi' (by decide)
        cases he
        have hownd : w2.drew.ownsRow 0 67 7 fv _ _ := ownsRow_turns hown (Turns.of_below (F := fun _ => False) hdr) (fun _ _ h => h)
        have c0d : w2.drew.cell? ⟨g, 0, none⟩ = some (.slice (some ⟨gL, 0, none⟩) L.length cL) := h2d.blk.cell 0
        have hE := h2d.el _ (List.getElem_mem hi')
        refine draw (Below w2.heap.size w2) hdr ?_
        (repeat with_reducible first|refine yfd m0 (by decide) ?_|refine yl1 one42 s0 ?_|refine yixG und42 sz73 i hi' ?_|refine yfdG o0 (by decide) ?_|refine yl1 one3 s1 ?_|refine z_W ?_)
        refine yi_neq_c (fun hne => ?_) (fun heq => ?_)
        · (repeat with_reducible first|refine fd m0 (by decide) ?_|refine ld one42 c0d ?_|refine ixG und42 sz73 i hi' ?_|refine z_a ?_|refine z_b ?_|refine z_f ?_|refine z_j ?_|refine z_k ?_)
          refine ldR (us := oneF L[i]) agg73 (fun j u hu => by rw [add0]; exact hcelld j u hu) (by rw [sz73]; rfl) ?_
          refine apOne und42 inf73 (by rfl) (by decide) hownd (oneF_len _) (oneF_one hE) (by omega) (by omega) (by kernel_rfl) ?_
          intro v3 w3 ho3 hbl3 hT3
          have hsd : w1.heap.size ≤ w2.drew.heap.size := hs2
          refine hJ1 _ _ ⟨v3, rfl, ?_, hfr.one hsd hbl3, (below_then hb2 hdr).trans (hT3.fresh hfr hsd)⟩
          rw [hstep, if_pos (by simp [hne]), List.length_append, List.flatMap_append]
          simpa using ho3
        · (repeat with_reducible first|refine yfd m0 (by decide) ?_|refine yl1 one42 s0 ?_|refine yixG und42 sz73 i hi' ?_|refine yfdG o1 (by decide) ?_|refine yl1 one3 s2 ?_|refine z_W ?_|refine z_d ?_|refine z_h ?_)
          refine act ?_
          refine (refFloor_spec id h2d hlF).mono ?_
          rintro _ _ ⟨rfl, rfl⟩
          refine ⟨_, hdr, fun _ h => h, ?_⟩
          (repeat with_reducible first|refine z_d ?_)
          refine yi_gtr_c (fun hgt => ?_) (fun hgt => ?_)
          · (repeat with_reducible first|refine fd m0 (by decide) ?_|refine ld one42 c0d ?_|refine ixG und42 sz73 i hi' ?_|refine z_a ?_|refine z_b ?_|refine z_l ?_)
            refine ldR (us := oneF L[i]) agg73 (fun j u hu => by rw [add0]; exact hcelld j u hu) (by rw [sz73]; rfl) ?_
            refine apOne und42 inf73 (by rfl) (by decide) hownd (oneF_len _) (oneF_one hE) (by omega) (by omega) (by kernel_rfl) ?_
            intro v3 w3 ho3 hbl3 hT3
            have hsd : w1.heap.size ≤ w2.drew.heap.size := hs2
            refine hJ1 _ _ ⟨v3, rfl, ?_, hfr.one hsd hbl3, (below_then hb2 hdr).trans (hT3.fresh hfr hsd)⟩
            rw [hstep, if_pos (by simp [hgt]), List.length_append, List.flatMap_append]
            simpa using ho3
          · (repeat with_reducible first|refine z_c ?_|refine z_l ?_)
            refine hJ1 _ _ ⟨fv, rfl, ?_, hfr, below_then hb2 hdr⟩
            have heq' : L[i].cl = id := by simpa using heq
            rw [hstep, if_neg (by simp [heq', hgt]), List.append_nil]
            exact hownd
      · obtain ⟨rv', rfl, ho, hf, hb⟩ := hI
        dsimp only [List.headD_cons, List.tail_cons]
        (repeat with_reducible first|refine z_o (by omega) ?_)
        exact hJ _ _ _ ⟨i + 1, by omega, by simp, ho, hf, hb⟩ (by simp [intOf]; omega)
    · have : i = L.length := by omega
      subst this
      rw [List.take_length] at hown
      (repeat with_reducible first|refine fd m0 (by decide) ?_|refine z_a ?_|refine z_c ?_)
      refine st sz42 (own1 hown) (by rw [h2.blk.cell 0]; rfl) (h2.blk.frozen 0) ?_
      obtain ⟨hR, hT⟩ := h2.setL hown (fun k hk => by have := hfr k hk; omega) hgl (fun x hx => h2.el x (List.mem_filter.1 hx).1)
      exact ⟨fv, vF', hR, (hT1.then_below hb2).trans (hT.mono fun k _ e => .inl e)⟩
end Go.Proofs.YtmnaggdhkggjhaaGreatDoor.E
