import Derived.Test.YtmnaggdhkggjhaaGreatDoorMj
namespace Go.Proofs.YtmnaggdhkggjhaaGreatDoor.E
open Go Go.Proofs Go.RowKit
set_option linter.unusedSimpArgs false
set_option linter.unusedVariables false

structure Bks (w0 w : World) (v : Value) (bs : List UInt8) (kss : List (Value × List Int)) : Prop where
  own : Own 5 w v (bs.map u8)
  fresh : Fresh w0.heap.size v
  keys : ∀ p ∈ kss, Own 3 w p.1 (p.2.map (Value.int .i64)) ∧ (p.1.ownBlock = none ∨ p.1.ownBlock ≠ v.ownBlock)
  bel : Below w0.heap.size w0 w
section
variable {w0 w w' : World} {v : Value} {bs : List UInt8} {kss : List (Value × List Int)}
theorem Bks.below (h : Bks w0 w v bs kss) (hb : Below w.heap.size w w') : Bks w0 w' v bs kss :=
  ⟨h.own.below hb, h.fresh, fun p hp => ⟨(h.keys p hp).1.below hb, (h.keys p hp).2⟩, below_then h.bel hb⟩
theorem Bks.more (h : Bks w0 w v bs kss) {k : Value} {ys : List Int} (ho : Own 3 w k (ys.map (Value.int .i64))) {n : Nat} (hf : Fresh n k) (hn : ∀ j, v.ownBlock = some j → j < n) : Bks w0 w v bs ((k, ys) :: kss) := by
  refine ⟨h.own, h.fresh, fun p hp => ?_, h.bel⟩
  rcases List.mem_cons.1 hp with rfl | hp
  · refine ⟨ho, ?_⟩
    cases hk : k.ownBlock with
    | none => exact .inl rfl
    | some j =>
      refine .inr fun e => ?_
      have h1 := hf j hk
      have h2 := hn j e.symm
      omega
  · exact h.keys p hp
theorem Bks.less (h : Bks w0 w v bs kss) {kss' : List (Value × List Int)} (hs : ∀ p ∈ kss', p ∈ kss) : Bks w0 w v bs kss' := ⟨h.own, h.fresh, fun p hp => h.keys p (hs p hp), h.bel⟩
theorem Bks.app {K : Value → World → Prop} {cs : Array Bool} (h : Bks w0 w v bs kss) {x : Value} {ys : List UInt8} (hx : RdB w x ys) (hl : bs.length + ys.length ≤ 1000000000)
    (k : ∀ v' w', Bks w0 w' v' (bs ++ ys) kss → Turns (fun j => v.ownBlock = some j) w w' → K v' w') : NextP Tryz.prog (builtin .append #[69, 69] 69 cs #[v, x]) K w := by
  refine apT undB infU8 (by rfl) (by decide) h.own hx (u8_one _) (by rw [List.length_map, List.length_map]; omega) ?_
  intro v' w' ho hbl hT
  have hs := h.bel.size
  refine k v' w' ⟨by rw [List.map_append]; exact ho, ?_, fun p hp => ?_, h.bel.trans (hT.below hs fun j hj e => by have := h.fresh j e; omega)⟩ hT
  · intro j hj
    rcases hbl with e | e
    · exact h.fresh j (by rw [← e]; exact hj)
    · rw [e] at hj; cases hj; exact hs
  · obtain ⟨h1, h2⟩ := h.keys p hp
    refine ⟨h1.turns hT fun j hj e => ?_, ?_⟩
    · rcases h2 with h2 | h2
      · rw [h2] at hj; cases hj
      · exact h2 (hj.trans e.symm)
    · rcases hbl with e | e
      · rw [e]; exact h2
      · rw [e]
        cases hk : p.1.ownBlock with
        | none => exact .inl rfl
        | some j =>
          refine .inr fun e2 => ?_
          have := h1.ownLt hk
          cases e2
          omega
end
theorem flat_take_len {α : Type} (f : α → List UInt8) (l : List α) (k : Nat) : ((l.take k).map f).flatten.length ≤ (l.map f).flatten.length := by
  have e : l.map f = (l.take k).map f ++ (l.drop k).map f := by rw [← List.map_append, List.take_append_drop]
  rw [e, List.flatten_append, List.length_append]
  omega
theorem flat_take_succ {α : Type} (f : α → List UInt8) {l : List α} {k : Nat} (hk : k < l.length) : ((l.take (k + 1)).map f).flatten = ((l.take k).map f).flatten ++ f l[k] := by
  rw [List.take_succ_eq_append_getElem hk, List.map_append, List.flatten_append]
  simp
theorem NumI {n : Int} (hn : 0 ≤ n ∧ n ≤ 1099511627776) (w : World) : CallP Tryz.prog 27 #[.int .i64 n] (fun r w' => Own 5 w' r ((Pack.num n.toNat).map u8) ∧ Fresh w.heap.size r ∧ Below w.heap.size w w') w := by
  have e : n = ((n.toNat : Nat) : Int) := by omega
  rw [e]
  exact Num_spec n.toNat (by omega) w
theorem bss3 {K : Value → World → Prop} {w : World} {x y z : Value} {a b c : List UInt8} (hx : RdB w x a) (hy : RdB w y b) (hz : RdB w z c) (k : ∀ v' w', RdSS w' v' [a, b, c] → Below w.heap.size w w' → K v' w') : LiftP Tryz.prog (Instr.buildSlice 108 3 #[(0, x), (1, y), (2, z)]) K w := by
  obtain ⟨A1, c1, rfl, _⟩ := hx.slice
  obtain ⟨A2, c2, rfl, _⟩ := hy.slice
  obtain ⟨A3, c3, rfl, _⟩ := hz.slice
  refine lift (v := .slice (some ⟨w.heap.size, 0, none⟩) 3 3) (w' := w.alloc (.cells #[.slice A1 a.length c1, .slice A2 b.length c2, .slice A3 c.length c3] 69)) (by kernel_rfl) ?_
  have ha : Below w.heap.size w (w.alloc (.cells #[.slice A1 a.length c1, .slice A2 b.length c2, .slice A3 c.length c3] 69)) := (Below.refl _ _).alloc (Nat.le_refl _) _
  refine k _ _ ?_ ha
  refine RdSS.of (cs := [.slice A1 a.length c1, .slice A2 b.length c2, .slice A3 c.length c3]) (Own.new w 69 _ (by simp)).rd rfl ?_
  intro i h1 h2
  match i, h1 with
  | 0, _ => exact hx.below ha
  | 1, _ => exact hy.below ha
  | 2, _ => exact hz.below ha
theorem bss5 {K : Value → World → Prop} {w : World} {x y z p q : Value} {a b c d e : List UInt8} (hx : RdB w x a) (hy : RdB w y b) (hz : RdB w z c) (hp : RdB w p d) (hq : RdB w q e) (k : ∀ v' w', RdSS w' v' [a, b, c, d, e] → Below w.heap.size w w' → K v' w') : LiftP Tryz.prog (Instr.buildSlice 108 5 #[(0, x), (1, y), (2, z), (3, p), (4, q)]) K w := by
  obtain ⟨A1, c1, rfl, _⟩ := hx.slice
  obtain ⟨A2, c2, rfl, _⟩ := hy.slice
  obtain ⟨A3, c3, rfl, _⟩ := hz.slice
  obtain ⟨A4, c4, rfl, _⟩ := hp.slice
  obtain ⟨A5, c5, rfl, _⟩ := hq.slice
  refine lift (v := .slice (some ⟨w.heap.size, 0, none⟩) 5 5) (w' := w.alloc (.cells #[.slice A1 a.length c1, .slice A2 b.length c2, .slice A3 c.length c3, .slice A4 d.length c4, .slice A5 e.length c5] 69)) (by kernel_rfl) ?_
  have ha : Below w.heap.size w (w.alloc (.cells #[.slice A1 a.length c1, .slice A2 b.length c2, .slice A3 c.length c3, .slice A4 d.length c4, .slice A5 e.length c5] 69)) := (Below.refl _ _).alloc (Nat.le_refl _) _
  refine k _ _ ?_ ha
  refine RdSS.of (cs := [.slice A1 a.length c1, .slice A2 b.length c2, .slice A3 c.length c3, .slice A4 d.length c4, .slice A5 e.length c5]) (Own.new w 69 _ (by simp)).rd rfl ?_
  intro i h1 h2
  match i, h1 with
  | 0, _ => exact hx.below ha
  | 1, _ => exact hy.below ha
  | 2, _ => exact hz.below ha
  | 3, _ => exact hp.below ha
  | 4, _ => exact hq.below ha
theorem ylnm {P : Program} {S : World → Prop} {K : Value → World → Prop} {w : World} {t ty : TypeId} {e kt : TypeId} {b : Nat} {l : List (Int × Value)} (ht : P.underlying t = some (.map kt e)) {cs : Array Bool} (h : ∀ w', S w' → MapI w' b l) (kk : K (.int .i64 l.length) w) : YieldN P S (builtin .len #[t] ty cs #[.map (some b)]) K w := by
  refine yldN (v := .int .i64 l.length) (fun w' hw => ?_) kk
  obtain ⟨es, c, h1, h2, _⟩ := h w' hw
  have hl : es.size = l.length := by have := congrArg List.length h2; simpa using this
  simp [builtin, Builtin.len_, run_underlying ht, MapKept.run_getObj_map h1, goInt, hl]
def Num40 (n : Int) : Prop := 0 ≤ n ∧ n ≤ 1099511627776
structure CliOk (C : Cli) : Prop where
  fl : Num40 C.fl
  el : ∀ q ∈ C.l, Num40 q.1 ∧ Num40 q.2.R.code ∧ Num40 q.2.R.id
structure SvOk (T : List (Int × Cli)) : Prop where
  len : T.length ≤ 100000
  tot : (T.map fun p => p.2.l.length).sum ≤ 100000
  el : ∀ p ∈ T, Num40 p.1 ∧ CliOk p.2
theorem sum_mem {α : Type} (f : α → Nat) : ∀ {l : List α} {x : α}, x ∈ l → f x ≤ (l.map f).sum
  | y :: l, x, h => by
    rw [List.map_cons, List.sum_cons]
    rcases List.mem_cons.1 h with rfl | h
    · omega
    · have := sum_mem f h; omega
theorem SvOk.cli {T : List (Int × Cli)} (h : SvOk T) {p : Int × Cli} (hp : p ∈ T) : p.2.l.length ≤ 100000 := Nat.le_trans (sum_mem (fun p : Int × Cli => p.2.l.length) hp) h.tot
theorem num_six {n : Nat} (h : n ≤ 1099511627776) : (Pack.num n).length ≤ 6 := Pack.num_log 5 n (Nat.lt_of_le_of_lt h (by decide))
theorem saveR_len {p : Int × Rm} (h : Num40 p.1 ∧ Num40 p.2.1.code ∧ Num40 p.2.1.id) : (saveR p).length ≤ 300 := by
  obtain ⟨⟨_, h1⟩, ⟨_, h2⟩, ⟨_, h3⟩⟩ := h
  have h4 := Pl.packT_len p.2.2
  have n1 := num_six (n := p.1.toNat) (by omega)
  have n2 := num_six (n := p.2.1.code.toNat) (by omega)
  have n3 := num_six (n := p.2.1.id.toNat) (by omega)
  have n4 := num_six (n := there p.2.1.there) (by unfold there; split <;> omega)
  have n5 := num_six (n := (Pl.packT p.2.2).length) (by omega)
  have e : (Pack.text (strB (Pl.packT p.2.2))).length = (Pack.num (Pl.packT p.2.2).length).length + (Pl.packT p.2.2).length := by
    unfold Pack.text
    rw [strB_list, List.length_append]
  unfold saveR
  simp only [List.length_append]
  rw [e]
  omega
theorem flat_len_le {α : Type} (f : α → List UInt8) (b : α → Nat) : ∀ l : List α, (∀ x ∈ l, (f x).length ≤ b x) → (l.map f).flatten.length ≤ (l.map b).sum
  | [], _ => by simp
  | x :: l, h => by
    have := flat_len_le f b l fun y hy => h y (List.mem_cons_of_mem _ hy)
    have := h x (List.mem_cons_self ..)
    rw [List.map_cons, List.flatten_cons, List.length_append, List.map_cons, List.sum_cons]
    omega
theorem sum_const {α : Type} (n : Nat) : ∀ l : List α, (l.map fun _ => n).sum = l.length * n
  | [] => by simp
  | x :: l => by rw [List.map_cons, List.sum_cons, sum_const n l, List.length_cons, Nat.add_mul]; omega
theorem sum_add {α : Type} (a m : Nat) (f : α → Nat) : ∀ l : List α, (l.map fun x => a + m * f x).sum = a * l.length + m * (l.map f).sum
  | [] => by simp
  | x :: l => by
    rw [List.map_cons, List.sum_cons, sum_add a m f l, List.length_cons, List.map_cons, List.sum_cons, Nat.mul_add, Nat.mul_add]
    omega
theorem absL_mem {l : List (Int × Rp)} {p : Int × Rm} (h : p ∈ absL l) : ∃ q ∈ l, p = (q.1, q.2.abs) := by
  obtain ⟨q, hq, e⟩ := List.mem_map.1 h
  exact ⟨q, hq, e.symm⟩
theorem absL_srt (l : List (Int × Rp)) : srt (absL l) = absL (srt l) := srt_map Rp.abs l
theorem CliOk.flat {C : Cli} (h : CliOk C) : ((srt (absL C.l)).map saveR).flatten.length ≤ C.l.length * 300 := by
  have h1 := flat_len_le saveR (fun _ => 300) (srt (absL C.l)) fun p hp => by
    obtain ⟨q, hq, rfl⟩ := absL_mem ((srt_perm _).mem_iff.1 hp)
    exact saveR_len (h.el q hq)
  have h2 : (srt (absL C.l)).length = C.l.length := by rw [srt_len, absL, List.length_map]
  rw [sum_const, h2] at h1
  exact h1
theorem SvOk.flat {T : List (Int × Cli)} (h : SvOk T) : ((lstT T).map saveCl).flatten.length ≤ 40000000 := by
  have h0 : (lstT T).map saveCl = (srt T).map fun p => saveCl (p.1, cliV p.2) := by unfold lstT; rw [List.map_map]; rfl
  have h1 := flat_len_le (fun p : Int × Cli => saveCl (p.1, cliV p.2)) (fun p => 18 + 300 * p.2.l.length) (srt T) fun q hq => by
    have hq := (srt_perm _).mem_iff.1 hq
    obtain ⟨⟨_, h1⟩, h2⟩ := h.el q hq
    obtain ⟨_, h3⟩ := h2.fl
    have h4 := h2.flat
    have h5 := h.cli hq
    have n1 := num_six (n := q.1.toNat) (by omega)
    have n2 := num_six (n := q.2.fl.toNat) (by omega)
    have e : (srt (absL q.2.l)).length = q.2.l.length := by rw [srt_len, absL, List.length_map]
    have n3 := num_six (n := (srt (absL q.2.l)).length) (by rw [e]; omega)
    show (Pack.num q.1.toNat ++ Pack.num q.2.fl.toNat ++ Pack.num (srt (absL q.2.l)).length ++ ((srt (absL q.2.l)).map saveR).flatten).length ≤ 18 + 300 * q.2.l.length
    simp only [List.length_append]
    omega
  have h2 : ((srt T).map fun p => 18 + 300 * p.2.l.length).sum = 18 * T.length + 300 * (T.map fun p => p.2.l.length).sum := by
    have hp : ((srt T).map fun p => 18 + 300 * p.2.l.length).sum = (T.map fun p => 18 + 300 * p.2.l.length).sum := ((srt_perm T).map _).sum_nat
    rw [hp]
    exact sum_add 18 300 (fun p : Int × Cli => p.2.l.length) T
  rw [h0]
  rw [h2] at h1
  have := h.len
  have := h.tot
  omega
end Go.Proofs.YtmnaggdhkggjhaaGreatDoor.E
namespace Go.Proofs.YtmnaggdhkggjhaaGreatDoor.E
open Go Go.Proofs Go.RowKit
set_option linter.unusedSimpArgs false
set_option linter.unusedVariables false

theorem cliOf (T : List (Int × Cli)) {i : Nat} (hi : i < (srt T).length) : (lstT T)[i]'(by rw [lstT, List.length_map]; exact hi) = ((srt T)[i].1, cliV (srt T)[i].2) := by
  simp [lstT]
theorem one34 : oneB Tryz.prog 34 = true := one22
/-- A client's row of answers laid down. -/
theorem SaveIn {w0 w : World} {c : Nat → Nat} {x : Nat} {C : Cli} (hC0 : CliAt c x w0 C) (hok : CliOk C) (hm : Pl.GMx w0) {ks : Value} {kss : List (Value × List Int)} {v : Value} {pre : List UInt8} (hp : pre.length ≤ 100000000)
    (h : Bks w0 w v pre ((ks, (srt C.l).map (·.1)) :: kss))
    {body : (List Value → World → Prop) → List Value → World → Prop}
    (hbody : ∀ (J : List Value → World → Prop) (ov : Value) (j : Nat) (w1 : World), j ≤ (srt C.l).length → Bks w0 w1 ov (pre ++ (((srt (absL C.l)).take j).map saveR).flatten) ((ks, (srt C.l).map (·.1)) :: kss) → (∀ ov' j' w2, j < j' → j' ≤ (srt C.l).length → Bks w0 w2 ov' (pre ++ (((srt (absL C.l)).take j').map saveR).flatten) ((ks, (srt C.l).map (·.1)) :: kss) → J [ov', .int .i64 (j' : Int)] w2) → body J [ov, .int .i64 (j : Int)] w1) :
    LoopP body [v, .int .i64 0] w := by
  refine LoopP.inv2 (fun ov iv w' => ∃ j : Nat, j ≤ (srt C.l).length ∧ iv = .int .i64 j ∧ Bks w0 w' ov (pre ++ (((srt (absL C.l)).take j).map saveR).flatten) ((ks, (srt C.l).map (·.1)) :: kss)) (fun _ iv _ => (srt C.l).length - (intOf iv).toNat) ⟨0, by omega, rfl, by simpa using h⟩ ?_
  rintro ov _ w1 ⟨j, hj, rfl, hb⟩ J hJ
  refine hbody J ov j w1 hj hb fun ov' j' w2 h1 h2 h3 => hJ _ _ _ ⟨j', h2, rfl, h3⟩ (by show _ - ((j' : Nat) : Int).toNat < _ - (j : Int).toNat; omega)
set_option maxHeartbeats 4000000 in
theorem Save_tab {hu : Nat} {c : Nat → Nat} {w : World} {g : Nat} {T : List (Int × Cli)} (h : TabC hu c w g T) (hok : SvOk T) (hm : Pl.GMx w) :
    CallP Tryz.prog 10 #[.pointer (some ⟨g, 0, none⟩)] (fun r w' => r = tS (saveT (lstT T)) ∧ Below w.heap.size w w') w := by
  obtain ⟨bm, h1⟩ := h
  have hlen := hok.len
  have hflat := hok.flat
  have hnd : (T.map (·.1)).Nodup := by
    have := h1.map.nodup
    rwa [List.map_map] at this
  have hLl : (lstT T).length = T.length := by rw [lstT, List.length_map, srt_len]
  have hn0 := num_six (n := T.length) (by omega)
  refine ⟨S10.calls _ _ _ ?_⟩
  unfold S10
  have c0 : ∀ w', Below w.heap.size w w' → w'.cell? ⟨g, 0, none⟩ = some (.map (some bm)) := fun w' hb => (h1.blk.below' hb).cell 0
  have hrw := Below.refl w.heap.size w
  (repeat with_reducible first|refine fd t0 (by decide) ?_|refine ld one58 (c0 _ hrw) ?_|refine z_a ?_)
  refine lnm und58 h1.map ?_
  rw [List.length_map]
  refine (Num_spec T.length (by omega) w).mono ?_
  rintro b0 w1 ⟨ho1, hf1, hb1⟩
  (repeat with_reducible first|refine fd t0 (by decide) ?_|refine ld one58 (c0 _ hb1) ?_|refine z_a ?_)
  refine (keysB_spec bm w1).mono ?_
  rintro _ w2 ⟨rfl, hw2⟩
  have hb12 : Below w1.heap.size w1 w2 := by rw [hw2]; exact (Below.refl _ _).alloc (Nat.le_refl _) _
  have hB2 : Blk w2 w1.heap.size 53 #[.map (some bm)] := by rw [hw2]; exact Blk.new w1 _ _
  have hb2 := below_then hb1 hb12
  refine (sortedB_spec bm w1.heap.size _ w2 (h1.map.below hb2) (hB2.cell 0) (by rw [List.length_map]; omega)).mono ?_
  rintro ks w3 ⟨hk3, hfk3, hb3⟩
  have hkeys : ((T.map fun p => (p.1, Value.pointer (some ⟨p.2.gc, 0, none⟩))).map (·.1)).mergeSort leI = (srt T).map (·.1) := by
    rw [srt_keys, List.map_map]; rfl
  rw [hkeys] at hk3
  have hbk : Bks w w3 b0 (Pack.num T.length) [(ks, (srt T).map (·.1))] := by
    have h0 : Bks w w1 b0 (Pack.num T.length) [] := ⟨ho1, hf1, by simp, hb1⟩
    exact ((h0.below hb12).below hb3).more hk3 hfk3 fun j hj => by have := (ho1.below hb12).ownLt hj; omega
  obtain ⟨A, ck, rfl, _⟩ := hk3.rd.slice
  have hkl : (((srt T).map (·.1)).map (Value.int .i64)).length = T.length := by rw [List.length_map, List.length_map, srt_len]
  rw [hkl] at hbk ⊢
  refine ln und51 ?_
  refine LoopP.inv2 (fun ov iv w' => ∃ i : Nat, i ≤ T.length ∧ iv = .int .i64 i ∧ Bks w w' ov (Pack.num T.length ++ (((lstT T).take i).map saveCl).flatten) [(.slice A T.length ck, (srt T).map (·.1))]) (fun _ iv _ => T.length - (intOf iv).toNat)
    ⟨0, by omega, rfl, by simpa using hbk⟩ ?_
  clear hbk hb3 hb12 hB2 hb2 hfk3 hk3
  rintro ov _ w4 ⟨i, hi, rfl, hbk⟩ J hJ
  dsimp only [List.headD_cons, List.tail_cons]
  have hpre := flat_take_len saveCl (lstT T) i
  refine bi_lss_c (fun hlt => ?_) (fun hlt => ?_)
  rotate_left
  · have : i = T.length := by omega
    subst this
    have e : (lstT T).take T.length = lstT T := List.take_of_length_le (by omega)
    rw [e] at hbk
    (repeat with_reducible first|refine z_c ?_)
    refine cvBS undB undU8 undT9 hbk.own.rdB ?_
    exact ⟨by rw [saveT, hLl]; rfl, hbk.bel⟩
  have hi' : i < T.length := by omega
  have his : i < (srt T).length := by rw [srt_len]; exact hi'
  have hiL : i < (lstT T).length := by omega
  have hb4 := hbk.bel
  have hsucc := flat_take_succ saveCl hiL
  have hsl := flat_take_len saveCl (lstT T) (i + 1)
  rw [hsucc, List.length_append] at hsl
  have eci := cliOf T his
  obtain ⟨p, hp⟩ : ∃ p, p = (srt T)[i] := ⟨_, rfl⟩
  rw [← hp] at eci
  rw [eci] at hsucc hsl
  have hpT : p ∈ T := by rw [hp]; exact (srt_perm T).mem_iff.1 (List.getElem_mem his)
  have hget : getK p.1 T = some p.2 := by rw [hp]; exact srt_get hnd i his
  obtain ⟨hid, hcl⟩ := hok.el p hpT
  have hC0 := (h1.el p hpT).2
  obtain ⟨id, C⟩ := p
  have hcl : CliOk C := hcl
  have hid : Num40 id := hid
  have hC0 : CliAt c (hueC hu id) w C := hC0
  have hsl : (((lstT T).take i).map saveCl).flatten.length + (saveCl (id, cliV C)).length ≤ ((lstT T).map saveCl).flatten.length := hsl
  have hsucc : (((lstT T).take (i + 1)).map saveCl).flatten = (((lstT T).take i).map saveCl).flatten ++ saveCl (id, cliV C) := hsucc
  have n5 := num_six (n := id.toNat) (by obtain ⟨_, h⟩ := hid; omega)
  have n6 := num_six (n := C.fl.toNat) (by obtain ⟨_, h⟩ := hcl.fl; omega)
  have hc8 : C.l.length ≤ 100000 := hok.cli hpT
  have n7 := num_six (n := C.l.length) (by omega)
  have hxk : ((srt T).map (·.1))[i]'(by rw [List.length_map]; exact his) = id := by rw [List.getElem_map, ← hp]
  (repeat with_reducible first|refine z_b ?_)
  obtain ⟨a, rfl, hca⟩ := Rd.atI (hbk.keys _ (List.mem_cons_self ..)).1.rd i (by rw [List.length_map]; exact his)
  rw [hxk] at hca
  refine ix1 und51 sz3 hi' ?_
  refine ld one3 hca ?_
  (repeat with_reducible first|refine fd t0 (by decide) ?_|refine ld one58 (c0 _ hb4) ?_|refine z_a ?_)
  refine lkq und58 und3 z63 (h1.map.below hb4) ?_
  rw [getK_map (fun C : Cli => Value.pointer (some ⟨C.gc, 0, none⟩)), hget]
  simp only [Option.map_some, Option.getD_some]
  have q0 : ∀ w', Below w.heap.size w w' → w'.cell? ⟨C.gc, 0, none⟩ = some (.int .i64 C.fl) := fun w' hb => (hC0.blk.below' hb).cell 0
  have q1 : ∀ w', Below w.heap.size w w' → w'.cell? ⟨C.gc, 1, none⟩ = some (.map (some C.br)) := fun w' hb => (hC0.blk.below' hb).cell 1
  have hdr4 := hb4.drew
  refine draw (Below w.heap.size w) hdr4 ?_
  (repeat with_reducible first|refine yfd k0 (by decide) ?_|refine yl1 one3 q0 ?_|refine yfd k1 (by decide) ?_|refine yl1 one66 q1 ?_|refine z_W ?_)
  have hbd : Below w4.heap.size w4 w4.drew := (Below.refl _ _).drew
  refine act ?_
  refine (NumI hid w4.drew).mono ?_
  rintro v5 w5 ⟨ho5, hf5, hb5⟩
  have h45 := below_then hbd hb5
  refine ⟨_, below_then hb4 h45, fun _ h => h, ?_⟩
  refine act ?_
  refine (NumI hcl.fl w5).mono ?_
  rintro v6 w6 ⟨ho6, hf6, hb6⟩
  have h46 := below_then h45 hb6
  refine ⟨_, below_then hb4 h46, fun _ h => h, ?_⟩
  refine ylnm und66 (fun w' hb => hC0.map.below hb) ?_
  rw [List.length_map]
  refine act ?_
  refine (Num_spec C.l.length (by omega) w6).mono ?_
  rintro v7 w7 ⟨ho7, hf7, hb7⟩
  have h47 := below_then h46 hb7
  refine ⟨_, below_then hb4 h47, fun _ h => h, ?_⟩
  refine act ?_
  refine bss3 ((ho5.below hb6).below hb7).rdB (ho6.below hb7).rdB ho7.rdB ?_
  intro v8 w8 ho8 hb8
  have h48 := below_then h47 hb8
  refine ⟨_, below_then hb4 h48, fun _ h => h, ?_⟩
  have hfl := hcl.flat
  have hsl2 : (saveCl (id, cliV C)).length = ((Pack.num id.toNat).length + (Pack.num C.fl.toNat).length + (Pack.num (srt (absL C.l)).length).length) + ((srt (absL C.l)).map saveR).flatten.length := by
    show (Pack.num id.toNat ++ Pack.num C.fl.toNat ++ Pack.num (srt (absL C.l)).length ++ ((srt (absL C.l)).map saveR).flatten).length = _
    simp only [List.length_append]
  have hll : (srt (absL C.l)).length = C.l.length := by rw [srt_len, absL, List.length_map]
  rw [hll] at hsl2
  refine act ?_
  refine (Join_spec v8 _ w8 ho8 (by simp) (by simp only [List.flatten_cons, List.flatten_nil, List.length_append, List.length_nil]; omega)).mono ?_
  rintro v9 w9 ⟨ho9, hf9, hb9⟩
  have h49 := below_then h48 hb9
  refine ⟨_, below_then hb4 h49, fun _ h => h, ?_⟩
  refine act ?_
  refine (hbk.below h49).app ho9.rdB (by simp only [List.flatten_cons, List.flatten_nil, List.length_append, List.length_nil]; omega) ?_
  intro v10 w10 hbk10 _
  refine ⟨_, hbk10.bel, fun _ h => h, ?_⟩
  have hnk : (C.l.map (·.1)).Nodup := by
    have := hC0.map.nodup
    rwa [List.map_map] at this
  have hb10 := hbk10.bel
  (repeat with_reducible first|refine fd k1 (by decide) ?_|refine ld one66 (q1 _ hb10) ?_|refine z_a ?_)
  refine (keys_spec C.br w10).mono ?_
  rintro _ w11 ⟨rfl, hw11⟩
  have hb1011 : Below w10.heap.size w10 w11 := by rw [hw11]; exact (Below.refl _ _).alloc (Nat.le_refl _) _
  have hB11 : Blk w11 w10.heap.size 61 #[.map (some C.br)] := by rw [hw11]; exact Blk.new w10 _ _
  have hb11 := below_then hb10 hb1011
  refine (sorted_spec C.br w10.heap.size _ w11 (hC0.map.below hb11) (hB11.cell 0) (by rw [List.length_map]; omega)).mono ?_
  rintro ks2 w12 ⟨hk12, hfk12, hb12⟩
  have hkeys2 : ((C.l.map fun p => (p.1, p.2.val)).map (·.1)).mergeSort leI = (srt C.l).map (·.1) := by
    rw [srt_keys, List.map_map]; rfl
  rw [hkeys2] at hk12
  obtain ⟨A2, ck2, rfl, _⟩ := hk12.rd.slice
  have hkl2 : (((srt C.l).map (·.1)).map (Value.int .i64)).length = (srt C.l).length := by rw [List.length_map, List.length_map]
  rw [hkl2] at hk12 hfk12 ⊢
  have hbk12 := ((hbk10.below hb1011).below hb12).more hk12 hfk12 fun j hj => by have := (hbk10.own.below hb1011).ownLt hj; omega
  refine ln und51 ?_
  have hpl : (Pack.num T.length ++ (((lstT T).take i).map saveCl).flatten ++ [Pack.num id.toNat, Pack.num C.fl.toNat, Pack.num C.l.length].flatten).length ≤ 100000000 := by
    simp only [List.flatten_cons, List.flatten_nil, List.length_append, List.length_nil]; omega
  refine SaveIn hC0 hcl hm hpl hbk12 ?_
  intro J2 ov2 j w13 hj hbk13 hJ2
  dsimp only [List.headD_cons, List.tail_cons]
  have hb13 := hbk13.bel
  have hpre2 := flat_take_len saveR (srt (absL C.l)) j
  refine bi_lss_c (fun hlt2 => ?_) (fun hlt2 => ?_)
  rotate_left
  · have : j = (srt C.l).length := by omega
    subst this
    have e : (srt (absL C.l)).take (srt C.l).length = srt (absL C.l) := List.take_of_length_le (by rw [hll, srt_len]; exact Nat.le_refl _)
    rw [e] at hbk13
    (repeat with_reducible first|refine z_c ?_|refine z_o (by omega) ?_)
    rw [show (i : Int) + 1 = ((i + 1 : Nat) : Int) by omega]
    refine hJ _ _ _ ⟨i + 1, by omega, rfl, ?_⟩ (by show T.length - ((i + 1 : Nat) : Int).toNat < T.length - (i : Int).toNat; omega)
    have e2 : Pack.num T.length ++ (((lstT T).take (i + 1)).map saveCl).flatten = (Pack.num T.length ++ (((lstT T).take i).map saveCl).flatten ++ [Pack.num id.toNat, Pack.num C.fl.toNat, Pack.num C.l.length].flatten) ++ ((srt (absL C.l)).map saveR).flatten := by
      rw [hsucc]
      show _ ++ (_ ++ (Pack.num id.toNat ++ Pack.num C.fl.toNat ++ Pack.num (srt (absL C.l)).length ++ ((srt (absL C.l)).map saveR).flatten)) = _
      rw [hll]
      simp [List.append_assoc]
    rw [e2]
    exact hbk13.less fun p hp => List.mem_cons_of_mem _ hp
  have hj' : j < (srt C.l).length := by omega
  have hja : j < (srt (absL C.l)).length := by rw [hll]; rw [srt_len] at hj'; exact hj'
  have hsucc2 := flat_take_succ saveR hja
  have ecj : (srt (absL C.l))[j] = ((srt C.l)[j].1, (srt C.l)[j].2.abs) := (List.getElem_of_eq (absL_srt C.l) hja).trans (by simp [absL])
  rw [ecj] at hsucc2
  have hsl3 := flat_take_len saveR (srt (absL C.l)) (j + 1)
  rw [hsucc2, List.length_append] at hsl3
  obtain ⟨p, hp⟩ : ∃ p, p = (srt C.l)[j] := ⟨_, rfl⟩
  rw [← hp] at hsucc2 hsl3
  have hpC : p ∈ C.l := by rw [hp]; exact (srt_perm C.l).mem_iff.1 (List.getElem_mem hj')
  have hget2 : getK p.1 C.l = some p.2 := by rw [hp]; exact srt_get hnk j hj'
  obtain ⟨hno, hco, hri⟩ := hcl.el p hpC
  have hR0 := hC0.el p hpC
  have hxk2 : ((srt C.l).map (·.1))[j]'(by rw [List.length_map]; exact hj') = p.1 := by rw [List.getElem_map, ← hp]
  obtain ⟨no, m⟩ := p
  have hno : Num40 no := hno
  have hco : Num40 m.R.code := hco
  have hri : Num40 m.R.id := hri
  have hR0 : RpAt c (hueC hu id) w m := hR0
  have hsucc2 : (((srt (absL C.l)).take (j + 1)).map saveR).flatten = (((srt (absL C.l)).take j).map saveR).flatten ++ saveR (no, m.abs) := hsucc2
  have hsl3 : (((srt (absL C.l)).take j).map saveR).flatten.length + (saveR (no, m.abs)).length ≤ ((srt (absL C.l)).map saveR).flatten.length := hsl3
  (repeat with_reducible first|refine z_b ?_)
  obtain ⟨a2, rfl, hca2⟩ := Rd.atI (hbk13.keys _ (List.mem_cons_self ..)).1.rd j (by rw [List.length_map]; exact hj')
  rw [hxk2] at hca2
  refine ix1 und51 sz3 hj' ?_
  refine ld one3 hca2 ?_
  (repeat with_reducible first|refine fd k1 (by decide) ?_|refine ld one66 (q1 _ hb13) ?_|refine z_a ?_)
  refine lkq und66 und3 z27 (hC0.map.below hb13) ?_
  rw [getK_map (fun m : Rp => m.val), hget2]
  simp only [Option.map_some, Option.getD_some]
  refine alB z27 ?_
  intro g9 w14 hg9 hB14 hb14
  unfold Rp.val
  refine stB (cells := m.R.cells m.p (.slice none 0 0)) hB14 sz27 rfl (cellsR_one _ _ _ hR0.one rfl) ?_
  intro w15 hB15 hT15
  have h1315 : Below w13.heap.size w13 w15 := below_own hb14 hT15 (by omega)
  have hb15 := below_then hb13 h1315
  have hr15 := Below.refl w15.heap.size w15
  have r0c : ∀ w', Blk w' g9 39 (m.R.cells m.p (.slice none 0 0)) → w'.cell? ⟨g9, 0, none⟩ = some (.int .i64 m.R.code) := fun w' hB => hB.cell 0
  have r4c : ∀ w', Blk w' g9 39 (m.R.cells m.p (.slice none 0 0)) → w'.cell? ⟨g9, 4, none⟩ = some (.int .i64 m.R.id) := fun w' hB => hB.cell 4
  refine JoinP.cut (fun vs w' => vs = [.int .i64 (there m.R.there : Nat)] ∧ w' = w15) (fun J3 hJ3 => ?_) ?_
  · have c1 : w15.cell? ⟨g9, 1, none⟩ = some (.bool m.R.there) := hB15.cell 1
    (repeat with_reducible first|refine fd r1 (by decide) ?_|refine ld one4 c1 ?_)
    cases hth : m.R.there with
    | true =>
      (repeat with_reducible first|refine z_b ?_)
      exact hJ3 _ _ ⟨by rw [hth]; rfl, rfl⟩
    | false =>
      (repeat with_reducible first|refine z_c ?_)
      exact hJ3 _ _ ⟨by rw [hth]; rfl, rfl⟩
  rintro _ w15' ⟨rfl, rfl⟩
  dsimp only [List.headD_cons, List.tail_cons]
  have c2 : w15'.cell? ⟨g9, 2, none⟩ = some m.p := hB15.cell 2
  (repeat with_reducible first|refine fd r2 (by decide) ?_|refine ld one24 c2 ?_)
  refine (Pl.Pack32 m.p m.vs w15' (keeps_Vals _ _ _ _ hb15 hR0.vals) (hm.below hb15)).mono ?_
  rintro _ w16 ⟨er, rfl, hb16⟩
  have h1316 := below_then h1315 hb16
  (repeat with_reducible first|refine z_A ?_|refine z_B ?_)
  have hB16 := hB15.below' hb16
  have hd16 : Below w16.heap.size w16 w16.drew := (Below.refl _ _).drew
  refine draw (fun x => Blk x g9 39 (m.R.cells m.p (.slice none 0 0))) (hB16.below' hd16) ?_
  (repeat with_reducible first|refine yfd r0 (by decide) ?_|refine yl1 one34 r0c ?_|refine yfd r4 (by decide) ?_|refine yl1 one3 r4c ?_)
  refine act ?_
  refine (NumI hno w16.drew).mono ?_
  rintro u1 x1 ⟨uo1, uf1, ub1⟩
  have d1 := below_then hd16 ub1
  refine ⟨_, hB16.below' d1, fun _ h => h, ?_⟩
  refine act ?_
  refine (NumI hco x1).mono ?_
  rintro u2 x2 ⟨uo2, uf2, ub2⟩
  have d2 := below_then d1 ub2
  refine ⟨_, hB16.below' d2, fun _ h => h, ?_⟩
  refine act ?_
  refine (Num_spec (there m.R.there) (by unfold there; split <;> omega) x2).mono ?_
  rintro u3 x3 ⟨uo3, uf3, ub3⟩
  have d3 := below_then d2 ub3
  refine ⟨_, hB16.below' d3, fun _ h => h, ?_⟩
  refine act ?_
  refine (NumI hri x3).mono ?_
  rintro u4 x4 ⟨uo4, uf4, ub4⟩
  have d4 := below_then d3 ub4
  refine ⟨_, hB16.below' d4, fun _ h => h, ?_⟩
  refine act ?_
  have hpk := Pl.packT_len m.vs
  have hszb : (strB (Pl.packT m.vs)).size = (Pl.packT m.vs).length := tsz _
  refine (Text_spec (strB (Pl.packT m.vs)) (by omega) x4).mono ?_
  rintro u5 x5 ⟨uo5, ub5⟩
  have d5 := below_then d4 ub5
  refine ⟨_, hB16.below' d5, fun _ h => h, ?_⟩
  refine act ?_
  refine bss5 ((((uo1.below ub2).below ub3).below ub4).below ub5).rdB (((uo2.below ub3).below ub4).below ub5).rdB ((uo3.below ub4).below ub5).rdB (uo4.below ub5).rdB uo5.rdB ?_
  intro u6 x6 uo6 ub6
  have d6 := below_then d5 ub6
  refine ⟨_, hB16.below' d6, fun _ h => h, ?_⟩
  have hsr : [Pack.num no.toNat, Pack.num m.R.code.toNat, Pack.num (there m.R.there), Pack.num m.R.id.toNat, Pack.text (strB (Pl.packT m.vs))].flatten = saveR (no, m.abs) := by
    show _ = Pack.num no.toNat ++ Pack.num m.R.code.toNat ++ Pack.num (there m.R.there) ++ Pack.num m.R.id.toNat ++ Pack.text (strB (Pl.packT m.vs))
    simp [List.append_assoc]
  have hsrl := saveR_len (p := (no, m.abs)) ⟨hno, hco, hri⟩
  refine act ?_
  refine (Join_spec u6 _ x6 uo6 (by simp) (by rw [hsr]; omega)).mono ?_
  rintro u7 x7 ⟨uo7, uf7, ub7⟩
  have d7 := below_then d6 ub7
  refine ⟨_, hB16.below' d7, fun _ h => h, ?_⟩
  rw [hsr] at uo7
  refine act ?_
  refine (hbk13.below (below_then h1316 d7)).app uo7.rdB (by simp only [List.length_append] at hpl ⊢; omega) ?_
  intro u8 x8 hbk8 hT8
  have hne9 : ¬ ov2.ownBlock = some g9 := by
    intro e
    have := hbk13.own.ownLt e
    omega
  refine ⟨_, (hB16.below' d7).turns hT8 hne9, fun _ h => h, ?_⟩
  (repeat with_reducible first|refine z_o (by omega) ?_)
  rw [show (j : Int) + 1 = ((j + 1 : Nat) : Int) by omega]
  refine hJ2 _ _ _ (by omega) (by omega) ?_
  rw [hsucc2, ← List.append_assoc]
  exact hbk8
end Go.Proofs.YtmnaggdhkggjhaaGreatDoor.E
namespace Go.Proofs.YtmnaggdhkggjhaaGreatDoor.E
open Go Go.Proofs Go.RowKit
set_option linter.unusedSimpArgs false
set_option linter.unusedVariables false

abbrev St := Nat × Bool
abbrev Most : Nat := 1099511627776
def rNum (bs : List UInt8) (most : Nat) (st : St) : Nat × St := if st.2 then (0, st) else ((getAt bs st.1).1, (getAt bs st.1).2.1, decide ((getAt bs st.1).2.2 ≠ 0 ∨ most < (getAt bs st.1).1))
def rText (bs : List UInt8) (st : St) : List UInt8 × St := if st.2 then ([], st) else ((textAt bs st.1 bs.length).1, (textAt bs st.1 bs.length).2.1, decide ((textAt bs st.1 bs.length).2.2 ≠ 0))
theorem rd0 : fofs Tryz.prog 71 0 = some (0, 1) := by kernel_rfl
theorem rd1 : fofs Tryz.prog 71 1 = some (1, 1) := by kernel_rfl
theorem rd2 : fofs Tryz.prog 71 2 = some (2, 1) := by kernel_rfl
theorem sz4 : (Tryz.prog.info? 4).map (·.size) = some 1 := by kernel_rfl
/-- A reader in memory. -/
structure RdAt (w : World) (g : Nat) (v : Value) (bs : List UInt8) (st : St) : Prop where
  blk : Blk w g 71 #[v, .int .i64 st.1, .bool st.2]
  rd : RdB w v bs
  le : st.1 ≤ bs.length
  ne : bs = [] ∨ ∀ b, v.ownBlock = some b → b ≠ g
theorem RdAt.turns {w w' : World} {g : Nat} {v : Value} {bs : List UInt8} {st : St} {F : Nat → Prop} (h : RdAt w g v bs st) (hT : Turns F w w') (hg : ¬ F g) (hv : bs = [] ∨ ∀ b, v.ownBlock = some b → ¬ F b) : RdAt w' g v bs st :=
  ⟨h.blk.turns hT hg, h.rd.turns hT hv, h.le, h.ne⟩
theorem RdAt.below {w w' : World} {g : Nat} {v : Value} {bs : List UInt8} {st : St} (h : RdAt w g v bs st) (hb : Below w.heap.size w w') : RdAt w' g v bs st := h.turns (F := fun _ => False) (Turns.of_below hb) (fun h => h) (.inr fun _ _ h => h)
theorem rNum_le {bs : List UInt8} {most : Nat} {st : St} (h : st.1 ≤ bs.length) : (rNum bs most st).2.1 ≤ bs.length := by
  unfold rNum
  split
  · exact h
  · by_cases h2 : (getAt bs st.1).2.2 = 0
    · exact (getAt_le bs _ h h2).2
    · show (getAt bs st.1).2.1 ≤ _
      rw [getAt_err bs _ h2]; omega
theorem rText_le {bs : List UInt8} {st : St} (h : st.1 ≤ bs.length) : (rText bs st).2.1 ≤ bs.length := by
  unfold rText
  split
  · exact h
  · by_cases h2 : (textAt bs st.1 bs.length).2.2 = 0
    · exact textAt_le bs _ _ h h2
    · show (textAt bs st.1 bs.length).2.1 ≤ _
      rw [textAt_err bs _ _ h2]; simp
theorem getFrom_lt : ∀ (bs : List UInt8) (k : Nat), k ≤ 8 → (Pack.getFrom k bs).1 < 128 ^ (9 - k)
  | [], k, _ => by rw [Pack.getFrom]; exact Nat.pow_pos (by decide)
  | c :: r, k, hk => by
    rw [Pack.getFrom]
    have h0 : 0 < 128 ^ (9 - k) := Nat.pow_pos (by decide)
    have e : 128 ^ (9 - k) = 128 ^ (8 - k) * 128 := by rw [← Nat.pow_succ]; congr 1; omega
    have h8 : 0 < 128 ^ (8 - k) := Nat.pow_pos (by decide)
    split
    · exact h0
    rename_i h1
    split
    · simp only; omega
    rename_i h2
    split
    · have ih := getFrom_lt r (k + 1) (by omega)
      have e2 : 9 - (k + 1) = 8 - k := by omega
      rw [e2] at ih
      simp only
      omega
    · exact h0
theorem getAt_lt (bs : List UInt8) (i : Nat) : (getAt bs i).1 < 9223372036854775808 := getFrom_lt (bs.drop i) 0 (by decide)
theorem rNum_lt (bs : List UInt8) (most : Nat) (st : St) : (rNum bs most st).1 < 9223372036854775808 := by
  unfold rNum
  split
  · simp
  · exact getAt_lt bs _
theorem RdAt.put {w : World} {g : Nat} {v : Value} {bs : List UInt8} {st : St} (h : RdAt w g v bs st) (a : Nat) (b : Bool) (ha : a ≤ bs.length) :
    ∃ w1, w1 = w.setCell ⟨g, 1, none⟩ (.int .i64 a) ∧ (w.cell? ⟨g, 1, none⟩).isSome = true ∧ w.frozen? ⟨g, 1, none⟩ = false ∧ (w1.cell? ⟨g, 2, none⟩).isSome = true ∧ w1.frozen? ⟨g, 2, none⟩ = false ∧ RdAt (w1.setCell ⟨g, 2, none⟩ (.bool b)) g v bs (a, b) ∧ Turns (fun k => k = g) w (w1.setCell ⟨g, 2, none⟩ (.bool b)) := by
  have hb1 := h.blk.set_ 1 (.int .i64 a)
  have hT1 := Turns.setCell (F := fun k => k = g) (p := ⟨g, 1, none⟩) (Turns.refl _ w) (.inl rfl) (.int .i64 a)
  have hT2 := Turns.setCell (F := fun k => k = g) (p := ⟨g, 2, none⟩) hT1 (.inl rfl) (.bool b)
  refine ⟨_, rfl, by rw [h.blk.cell 1]; rfl, h.blk.frozen 1, by rw [hb1.cell 2]; rfl, hb1.frozen 2, ⟨hb1.set_ 2 (.bool b), h.rd.turns hT2 ?_, ha, h.ne⟩, hT2⟩
  exact h.ne.imp id fun hh b hb e => hh b hb e
theorem RdAt.mark {w : World} {g : Nat} {v : Value} {bs : List UInt8} {st : St} (h : RdAt w g v bs st) (b : Bool) :
    (w.cell? ⟨g, 2, none⟩).isSome = true ∧ w.frozen? ⟨g, 2, none⟩ = false ∧ RdAt (w.setCell ⟨g, 2, none⟩ (.bool b)) g v bs (st.1, b) ∧ Turns (fun k => k = g) w (w.setCell ⟨g, 2, none⟩ (.bool b)) := by
  have hT2 := Turns.setCell (F := fun k => k = g) (p := ⟨g, 2, none⟩) (Turns.refl _ w) (.inl rfl) (.bool b)
  refine ⟨by rw [h.blk.cell 2]; rfl, h.blk.frozen 2, ⟨h.blk.set_ 2 (.bool b), h.rd.turns hT2 ?_, h.le, h.ne⟩, hT2⟩
  exact h.ne.imp id fun hh b hb e => hh b hb e
theorem num25 {w : World} {g : Nat} {v : Value} {bs : List UInt8} {st : St} (most : Nat) (hm : most ≤ Most) (h : RdAt w g v bs st) (hbl : bs.length ≤ 1000000) :
    CallP Tryz.prog 25 #[.pointer (some ⟨g, 0, none⟩), .int .i64 most] (fun r w' => r = .int .i64 (rNum bs most st).1 ∧ RdAt w' g v bs (rNum bs most st).2 ∧ Turns (fun k => k = g) w w') w := by
  refine ⟨S25.calls _ _ _ _ ?_⟩
  unfold S25
  have hle := rNum_le (most := most) h.le
  obtain ⟨at_, bad⟩ := st
  have c2 : w.cell? ⟨g, 2, none⟩ = some (.bool bad) := h.blk.cell 2
  (repeat with_reducible first|refine fd rd2 (by decide) ?_|refine ld one4 c2 ?_|refine z_a ?_)
  cases bad with
  | true =>
    (repeat with_reducible first|refine z_b ?_)
    have e : rNum bs most (at_, true) = (0, (at_, true)) := by unfold rNum; rw [if_pos rfl]
    rw [e]
    exact ⟨rfl, h, Turns.refl _ w⟩
  | false =>
  have e : rNum bs most (at_, false) = ((getAt bs at_).1, (getAt bs at_).2.1, decide ((getAt bs at_).2.2 ≠ 0 ∨ most < (getAt bs at_).1)) := by unfold rNum; rw [if_neg (by simp)]
  rw [e] at hle ⊢
  (repeat with_reducible first|refine z_c ?_)
  have hdr : Below w.heap.size w w.drew := (Below.refl _ _).drew
  have k0 : ∀ w', Below w.heap.size w w' → w'.cell? ⟨g, 0, none⟩ = some v := fun w' hb => (h.blk.below' hb).cell 0
  have k1 : ∀ w', Below w.heap.size w w' → w'.cell? ⟨g, 1, none⟩ = some (.int .i64 at_) := fun w' hb => (h.blk.below' hb).cell 1
  have hd := h.below hdr
  refine draw (Below w.heap.size w) hdr ?_
  (repeat with_reducible first|refine yfd rd0 (by decide) ?_|refine yl1 oneBB k0 ?_|refine yfd rd1 (by decide) ?_|refine yl1 one3 k1 ?_|refine z_W ?_)
  refine act ?_
  refine (GetNum_spec v bs at_ w.drew hd.rd h.le hbl).mono ?_
  rintro _ _ ⟨rfl, rfl⟩
  refine ⟨_, hdr, fun _ h => h, ?_⟩
  (repeat with_reducible first|refine z_l1 ?_|refine z_m1 ?_|refine z_n1 ?_)
  have fin : ∀ b : Bool, (b = true ↔ (getAt bs at_).2.2 ≠ 0 ∨ most < (getAt bs at_).1) → b = decide ((getAt bs at_).2.2 ≠ 0 ∨ most < (getAt bs at_).1) := fun b hb => by
    rw [Bool.eq_iff_iff, hb, decide_eq_true_eq]
  refine bi_neq_c (fun h1 => ?a) (fun h1 => ?b)
  case' b =>
    (repeat with_reducible first|refine z_d ?_)
    refine bi_gtr_c (fun h2 => ?b1) (fun h2 => ?b2)
  case' a => have hb' := fin true ⟨fun _ => .inl (by omega), fun _ => rfl⟩
  case' b1 => have hb' := fin true ⟨fun _ => .inr (by omega), fun _ => rfl⟩
  case' b2 => have hb' := fin false ⟨fun e => (by cases e), fun e => by omega⟩
  all_goals
    rw [← hb']
    obtain ⟨w1, hw1, p1, p2, p3, p4, p5, p6⟩ := hd.put (getAt bs at_).2.1 _ hle
    (repeat with_reducible first|refine fd rd1 (by decide) ?_|refine z_a ?_|refine z_f ?_|refine z_k ?_|refine z_l ?_)
    refine st sz3 rfl p1 p2 ?_
    rw [← hw1]
    (repeat with_reducible first|refine fd rd2 (by decide) ?_|refine z_a ?_)
    refine st sz4 rfl p3 p4 ?_
    skip
    exact ⟨rfl, p5, (Turns.of_below hdr).trans (p6.mono fun _ _ e => .inl e)⟩
theorem text52 {w : World} {g : Nat} {v : Value} {bs : List UInt8} {st : St} (h : RdAt w g v bs st) (hbl : bs.length ≤ 1000000) :
    CallP Tryz.prog 52 #[.pointer (some ⟨g, 0, none⟩)] (fun r w' => r = tS (rText bs st).1 ∧ RdAt w' g v bs (rText bs st).2 ∧ Turns (fun k => k = g) w w') w := by
  refine ⟨S52.calls _ _ _ ?_⟩
  unfold S52
  have hle := rText_le h.le
  obtain ⟨at_, bad⟩ := st
  have c2 : w.cell? ⟨g, 2, none⟩ = some (.bool bad) := h.blk.cell 2
  (repeat with_reducible first|refine fd rd2 (by decide) ?_|refine ld one4 c2 ?_|refine z_a ?_)
  cases bad with
  | true =>
    (repeat with_reducible first|refine z_b ?_)
    have e : rText bs (at_, true) = ([], (at_, true)) := by unfold rText; rw [if_pos rfl]
    rw [e]
    exact ⟨rfl, h, Turns.refl _ w⟩
  | false =>
  have e : rText bs (at_, false) = ((textAt bs at_ bs.length).1, (textAt bs at_ bs.length).2.1, decide ((textAt bs at_ bs.length).2.2 ≠ 0)) := by unfold rText; rw [if_neg (by simp)]
  rw [e] at hle ⊢
  (repeat with_reducible first|refine z_c ?_)
  have hdr : Below w.heap.size w w.drew := (Below.refl _ _).drew
  have k0 : ∀ w', Below w.heap.size w w' → w'.cell? ⟨g, 0, none⟩ = some v := fun w' hb => (h.blk.below' hb).cell 0
  have k1 : ∀ w', Below w.heap.size w w' → w'.cell? ⟨g, 1, none⟩ = some (.int .i64 at_) := fun w' hb => (h.blk.below' hb).cell 1
  have hd := h.below hdr
  obtain ⟨A, cv, rfl, _⟩ := h.rd.slice
  refine draw (Below w.heap.size w) hdr ?_
  (repeat with_reducible first|refine yfd rd0 (by decide) ?_|refine yl1 oneBB k0 ?_|refine yfd rd1 (by decide) ?_|refine yl1 one3 k1 ?_|refine yln undB ?_|refine z_W ?_)
  refine act ?_
  refine (GetText_spec _ bs at_ bs.length w.drew hd.rd h.le hbl).mono ?_
  rintro _ _ ⟨rfl, rfl⟩
  refine ⟨_, hdr, fun _ h => h, ?_⟩
  (repeat with_reducible first|refine z_l1 ?_|refine z_m1 ?_|refine z_n1 ?_)
  have fin : ∀ b : Bool, (b = true ↔ (textAt bs at_ bs.length).2.2 ≠ 0) → b = decide ((textAt bs at_ bs.length).2.2 ≠ 0) := fun b hb => by
    rw [Bool.eq_iff_iff, hb, decide_eq_true_eq]
  refine bi_neq_c (fun h1 => ?a) (fun h1 => ?b)
  case' a => have hb' := fin true ⟨fun _ => by omega, fun _ => rfl⟩
  case' b => have hb' := fin false ⟨fun e => (by cases e), fun e => by omega⟩
  all_goals
    rw [← hb']
    obtain ⟨w1, hw1, p1, p2, p3, p4, p5, p6⟩ := hd.put (textAt bs at_ bs.length).2.1 _ hle
    (repeat with_reducible first|refine fd rd1 (by decide) ?_|refine z_a ?_)
    refine st sz3 rfl p1 p2 ?_
    rw [← hw1]
    (repeat with_reducible first|refine fd rd2 (by decide) ?_|refine z_a ?_)
    refine st sz4 rfl p3 p4 ?_
    skip
    exact ⟨rfl, p5, (Turns.of_below hdr).trans (p6.mono fun _ _ e => .inl e)⟩
end Go.Proofs.YtmnaggdhkggjhaaGreatDoor.E
