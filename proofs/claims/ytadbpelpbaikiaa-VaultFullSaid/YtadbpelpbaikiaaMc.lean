import Derived.Test.YtadbpelpbaikiaaMb
namespace Go.Proofs.Ytadbpelpbaikiaa.E
open Go Go.RowKit
set_option linter.unusedSimpArgs false
set_option linter.unusedVariables false

/-- A row of texts as bytes, of no block of G. -/
def RowW (G : Nat → Prop) (w : World) (y : Value) (l : List Txt) : Prop :=
  ∃ xs, Own 22 w y xs ∧ xs.length = l.length ∧ (∀ k, y.ownBlock = some k → ¬ G k) ∧ ∀ i (h1 : i < xs.length) (h2 : i < l.length), RdB w xs[i] l[i] ∧ (l[i] = [] ∨ ∀ k, xs[i].ownBlock = some k → ¬ G k)
theorem RowW.turns {G : Nat → Prop} {w w' : World} {y : Value} {l : List Txt} (h : RowW G w y l) (hT : Turns G w w') : RowW G w' y l := by
  obtain ⟨xs, h1, h2, h3, h4⟩ := h
  exact ⟨xs, h1.turns hT h3, h2, h3, fun i g1 g2 => ⟨(h4 i g1 g2).1.turns hT (h4 i g1 g2).2, (h4 i g1 g2).2⟩⟩
def VsT.didAll (V : VsT) (l : List Txt) : VsT := { V with s := V.s ++ allV l, n := V.n + l.length, m := V.m + l.length }
theorem didAll_snoc (V : VsT) (l : List Txt) (c : Txt) : (V.didAll l).did c = V.didAll (l ++ [c]) := by
  unfold VsT.didAll VsT.did
  simp only [allV_append, allV_one, List.length_append, List.length_cons, List.length_nil, List.append_assoc, VsT.mk.injEq, true_and]
  omega
theorem each30 {h : Nat} {c : Nat → Nat} {w : World} {g gd gt : Nat} {V : VsT} (hV : VlH h c w g gd gt V) (y : Value) (l : List Txt) (hy : RowW (fun k => k = g ∨ k = gt) w y l) (hs : V.s.length + (allV l).length ≤ 900000) (hn : -1000 ≤ V.n ∧ V.n ≤ 1000) (hm : -1000 ≤ V.m ∧ V.m ≤ 1000) (hl : l.length ≤ 900000) :
    CallP Try.prog 30 #[y, .func (.func 31) #[.pointer (some ⟨g, 0, none⟩)] #[]] (fun r w' => r = .tuple #[] ∧ VlH h c w' g gd gt (V.didAll l) ∧ Turns (fun k => k = g ∨ k = gt) w w') w := by
  have hlen := allV_len l
  have hy0 := hy
  obtain ⟨xs, hx1, hx2, _, _⟩ := hy
  obtain ⟨A, cc, rfl⟩ := hx1.slice
  refine ⟨S30.calls _ _ _ _ ?_⟩
  unfold S30
  refine ln und45 ?_
  refine LoopP.inv1 (fun iv w' => ∃ i : Nat, i ≤ l.length ∧ iv = .int .i64 i ∧ VlH h c w' g gd gt (V.didAll (l.take i)) ∧ Turns (fun k => k = g ∨ k = gt) w w') (fun iv _ => l.length - (intOf iv).toNat) ⟨0, by omega, rfl, by simpa [VsT.didAll, allV] using hV, Turns.refl _ _⟩ ?_
  rintro _ w1 ⟨i, hi, rfl, hV1, hT1⟩ J hJ
  dsimp only [List.headD_cons, List.tail_cons]
  refine bi_lss_c (fun h => ?_) (fun h => ?_)
  · have hi' : i < l.length := by omega
    obtain ⟨zs, hz1, hz2, _, hz4⟩ := hy0.turns hT1
    have hzl : zs.length = xs.length := by omega
    obtain ⟨a, rfl, hca⟩ := Rd.at hz1.rd i (by omega)
    have hb := (hz4 i (by omega) hi').1
    obtain ⟨A', c', he, _⟩ := hb.slice
    rw [he] at hca hb
    have hst : (allV (l.take i)).length + l[i].length + 1 ≤ (allV l).length := by
      have e1 : (allV (l.take (i + 1))).length ≤ (allV l).length := by
        have := List.take_append_drop (i + 1) l
        have e2 : allV l = allV (l.take (i + 1)) ++ allV (l.drop (i + 1)) := by rw [← allV_append, this]
        rw [e2, List.length_append]; omega
      rw [List.take_succ_eq_append_getElem hi', allV_append, allV_one, List.length_append, List.length_append] at e1
      simp only [List.length_cons, List.length_nil] at e1
      omega
    have htl : (l.take i).length = i := by rw [List.length_take]; omega
    (repeat with_reducible first|refine z_b ?_)
    refine ix1 und45 sz23 (by omega) ?_
    refine ld one23 hca ?_
    refine cvBS und23 und5 undT hb ?_
    refine cvlB (by kernel_rfl) ?_
    refine (done31 hV1 l[i] (by simp only [VsT.didAll, List.length_append]; omega) (by simp only [VsT.didAll, htl]; omega) (by simp only [VsT.didAll, htl]; omega)).mono ?_
    rintro _ w2 ⟨rfl, hV2, hT2, _⟩
    (repeat with_reducible first|refine z_o (by omega) ?_)
    refine hJ _ _ ⟨i + 1, by omega, by simp, ?_, hT1.trans (hT2.mono fun k _ e => .inl e)⟩ (by simp [intOf]; omega)
    rw [didAll_snoc, ← List.take_succ_eq_append_getElem hi'] at hV2
    exact hV2
  · have : i = l.length := by omega
    subst this
    rw [List.take_length] at hV1
    (repeat with_reducible first|refine z_c ?_)
    exact ⟨rfl, hV1, hT1⟩
/-- What Open makes of a disk that is off. -/
def openV (d : Dk) : VsT := (⟨d.started, d.state.drop 1, 0, 0⟩ : VsT).didAll (Frame.scan d.log).1
def OpenPost (h : Nat) (c : Nat → Nat) (w : World) (gd gt : Nat) (d : Dk) (r : Value) (w' : World) : Prop :=
  (d.on = true → r = .tuple #[.pointer none, .int .i64 8] ∧ w' = w) ∧
  (d.on = false → d.state ≠ [] → ldOk d.state = false → r = .tuple #[.pointer none, .int .i64 3] ∧ Lft h c w (fun c' w' => DkH h c' w' gd d.started) w') ∧
  (d.on = false → d.state = [] ∨ ldOk d.state = true → ∃ g, r = .tuple #[.pointer (some ⟨g, 0, none⟩), .int .i64 0] ∧ w.heap.size ≤ g ∧ Lft h c w (fun c' w' => VlH h c' w' g gd gt (openV d)) w')
set_option maxHeartbeats 1000000 in
theorem Open11 {h : Nat} {c cd : Nat → Nat} {w : World} {gd gt : Nat} {d : Dk} (h1 : ∀ k, cd k ≠ 0 → c k = h) (h2 : DiskC cd w gd d) (hsm : d.small) (h6 : c gt = h ∧ cd gt = 0 ∧ Blk w gt 37 (tpC [] 0)) (hs : d.state.length + (allV (Frame.scan d.log).1).length ≤ 900000) :
    CallP Try.prog 11 #[.pointer (some ⟨gd, 0, none⟩), .iface 35 (.pointer (some ⟨gt, 0, none⟩))] (OpenPost h c w gd gt d) w := by
  refine ⟨S11.calls _ _ _ _ ?_⟩
  unfold S11
  refine (Start_spec cd w gd d h2 hsm).mono ?_
  intro r w1 hr
  cases hon : d.on with
  | true =>
    rw [hon] at hr
    obtain ⟨rfl, rfl⟩ := hr
    (repeat with_reducible first|refine z_b ?_|refine z_s (by omega) ?_|refine z_A ?_|refine z_B ?_|refine z_C ?_)
    exact ⟨fun _ => ⟨rfl, rfl⟩, fun e => by rw [hon] at e; (cases e), fun e => by rw [hon] at e; (cases e)⟩
  | false =>
  rw [hon] at hr
  obtain ⟨x, y, cd1, rfl, e1, e2, h3, hT1, hx, hy, hfy, _⟩ := hr
  have b1 := h6.2.2.turns hT1 fun e => e h6.2.1
  have hs1 := hT1.size
  have hTc : Turns (fun k => c k = h) w w1 := hT1.mono fun k _ e => h1 k e
  have hcd : ∀ k, cd1 k ≠ 0 → k < w.heap.size ∧ c k = h := fun k hk => by
    by_cases e : k < w.heap.size
    · exact ⟨e, h1 k (by rw [← e1 k e]; exact hk)⟩
    · exact absurd (e2 k (by omega)) hk
  obtain ⟨hxr, Ax, rfl, hxe⟩ := hx
  (repeat with_reducible first|refine z_c ?_|refine z_t (by omega) ?_|refine z_A ?_|refine z_B ?_|refine z_C ?_)
  refine ln und23 ?_
  -- what is behind the checkpoint
  have rest : ∀ (s0 : Txt) (w2 : World), s0.length ≤ d.state.length → s0 = d.state.drop 1 → Blk w2 gt 37 (tpC s0 0) → Turns (fun k => k = gt) w1 w2 → (d.state = [] ∨ ldOk d.state = true) → LiftP Try.prog (Instr.build 66 #[(0, .pointer (some ⟨gd, 0, none⟩)), (1, .iface 35 (.pointer (some ⟨gt, 0, none⟩)))]) (fun v33 w2 =>
      LiftP Try.prog (Instr.box 66 v33) (fun v34 w2 =>
      LiftP Try.prog (Instr.makeFunc (Go.Fn.func 31) #[v34] #[]) (fun v37 w2 =>
      CallP Try.prog 30 #[y, v37] (fun v38 w' => OpenPost h c w gd gt d (.tuple #[v34, .int .i64 0]) w') w2) w2) w2) w2 := fun s0 w2 hs0 hs0e hB2 hT2 hgood => by
    refine bd (cells := vtC gd gt 0) (by kernel_rfl) ?_
    refine bxB ?_
    intro g w3 hg hB3 hb3
    refine mkfB ?_
    have hs2 := hT2.size
    have hgtl := h6.2.2.lt
    have hT13 : Turns (fun k => k = gt) w1 w3 := hT2.trans (Turns.of_below hb3)
    have hcc := col_lt c w.heap.size h
    have hV3 : VlH h (col c w.heap.size h) w3 g gd gt ⟨d.started, s0, 0, 0⟩ := by
      refine ⟨cd1, fun k hk => ?_, h3.turns hT13 fun k e => ?_, ⟨col_ge _ _ _ (by omega), e2 g (by omega), hB3⟩, (hcc gt hgtl).trans h6.1, (e1 gt hgtl).trans h6.2.1, hB2.below' hb3⟩
      · obtain ⟨q1, q2⟩ := hcd k hk
        rw [hcc k q1]; exact q2
      · rw [e, e1 gt hgtl]; exact h6.2.1
    have hy3 : RowW (fun k => k = g ∨ k = gt) w3 y (Frame.scan d.log).1 := by
      obtain ⟨xs, y1, y2, y3, y4⟩ := hy
      have go : ∀ k, w.heap.size ≤ k → k < w1.heap.size → ¬ (k = g ∨ k = gt) := fun k q1 q2 => by omega
      have ne : ∀ k, w.heap.size ≤ k → ¬ k = gt := fun k q1 => by omega
      refine ⟨xs, y1.turns hT13 fun k hk => ne k (hfy k hk), y2, fun k hk => go k (hfy k hk) (y1.lt hk), fun i g1 g2 => ?_⟩
      obtain ⟨⟨z1, Az, z2, z3⟩, _⟩ := y4 i g1 g2
      have zf : (Frame.scan d.log).1[i] = [] ∨ ∀ k, xs[i].ownBlock = some k → w.heap.size ≤ k ∧ k < w1.heap.size := by
        by_cases e : (Frame.scan d.log).1[i] = []
        · exact .inl e
        · refine .inr fun k hk => ⟨?_, z1.lt e hk⟩
          obtain ⟨g9, q1, q2, _⟩ := z3 0 (List.length_pos_iff.2 e)
          rw [z2, q1] at hk
          cases hk
          exact q2
      exact ⟨z1.turns hT13 (zf.imp id fun q k hk => ne k (q k hk).1), zf.imp id fun q k hk => go k (q k hk).1 (q k hk).2⟩
    have hcl : (Frame.scan d.log).1.length ≤ (allV (Frame.scan d.log).1).length := by rw [allV_len]; omega
    refine (each30 hV3 y _ hy3 (by show s0.length + _ ≤ _; omega) (by dsimp only []; decide) (by dsimp only []; decide) (by omega)).mono ?_
    rintro _ w4 ⟨rfl, hV4, hT4⟩
    refine ⟨fun e => by rw [hon] at e; (cases e), fun _ e1 e2 => hgood.elim (fun e => absurd e e1) (fun e => absurd (e.symm.trans e2) (by decide)), fun _ _ => ⟨g, rfl, by omega, col c w.heap.size h, hcc, ?_, ?_⟩⟩
    · rw [hs0e] at hV4
      exact hV4
    · refine (hTc.trans (hT13.mono fun k _ e => .inl (by rw [e]; exact h6.1))).trans (hT4.mono fun k _ e => ?_)
      rcases e with e | e
      · exact .inr (by omega)
      · exact .inl (by rw [e]; exact h6.1)
  refine bi_gtr_c (fun hp => ?_) (fun hp => ?_)
  · have hne : d.state ≠ [] := fun e => by rw [e] at hp; simp at hp
    (repeat with_reducible first|refine z_d ?_)
    refine cvBS und23 und5 undT hxr ?_
    (repeat with_reducible first|refine z_d ?_)
    refine ivm (mLoad gt w1) (by kernel_rfl) ?_
    refine (TapeLoad63 gt [] d.state 0 w1 b1).mono ?_
    rintro _ w2 ⟨rfl, hB2, hT2⟩
    cases hld : ldOk d.state with
    | false =>
      (repeat with_reducible first|refine z_b ?_|refine z_d ?_|refine z_k ?_|refine z_F ?_)
      try simp only [Bool.not_false]
      skip
      refine ⟨fun e => by rw [hon] at e; (cases e), fun _ _ _ => ?_, fun _ e => e.elim (fun e => absurd e hne) (fun e => absurd (hld.symm.trans e) (by decide))⟩
      refine ⟨rfl, col c w.heap.size h, col_lt _ _ _, ⟨cd1, fun k hk => ?_, h3.turns hT2 fun k e => ?_⟩, hTc.trans (hT2.mono fun k _ e => .inl (by rw [e]; exact h6.1))⟩
      · obtain ⟨q1, q2⟩ := hcd k hk
        rw [col_lt _ _ _ k q1]; exact q2
      · rw [e, e1 gt h6.2.2.lt]; exact h6.2.1
    | true =>
      rw [hld, if_pos rfl] at hB2
      (repeat with_reducible first|refine z_c ?_|refine z_d ?_|refine z_k ?_|refine z_E ?_)
      try simp only [Bool.not_true]
      skip
      exact rest _ w2 (by rw [List.length_drop]; omega) rfl hB2 hT2 (.inr hld)
  · have he : d.state = [] := List.eq_nil_of_length_eq_zero (by omega)
    (repeat with_reducible first|refine z_c ?_|refine z_e ?_|refine z_l ?_)
    exact rest [] w1 (by simp) (by rw [he]; rfl) b1 (Turns.refl _ _) (.inl he)
/-- opened: a disk that is off, and whose checkpoint the tape loads. -/
theorem opened16 {h : Nat} (hh : 0 < h) {c : Nat → Nat} {w : World} {gd : Nat} {d : Dk} (hD : DkH h c w gd d) (hsm : d.small) (hoff : d.on = false) (hgood : d.state = [] ∨ ldOk d.state = true) (hs : d.state.length + (allV (Frame.scan d.log).1).length ≤ 900000) :
    CallP Try.prog 16 #[.pointer (some ⟨gd, 0, none⟩)] (fun r w' => ∃ g gt, r = .tuple #[.pointer (some ⟨g, 0, none⟩), .pointer (some ⟨gt, 0, none⟩)] ∧ Lft h c w (fun c' w' => VlH h c' w' g gd gt (openV d)) w') w := by
  obtain ⟨cd, h1, h2⟩ := hD
  refine ⟨S16.calls _ _ _ ?_⟩
  unfold S16
  refine bd (cells := tpC [] 0) (by kernel_rfl) ?_
  refine bxB ?_
  intro gt w1 hgt hB1 hb1
  refine ofPR (pr_pnil und54) ?_
  simp only [Option.isNone_some]
  (repeat with_reducible first|refine z_c ?_)
  refine mki undTp rfl ?_
  have hcc := col_lt c w.heap.size h
  refine (Open11 (h := h) (c := col c w.heap.size h) (cd := fun k => if k < w.heap.size then cd k else 0) (cut_col h1 hcc) ((h2.re (c' := fun k => if k < w.heap.size then cd k else 0) fun k hk => if_pos hk).below hb1) hsm ⟨col_ge _ _ _ (by omega), (by show (if gt < w.heap.size then cd gt else 0) = 0; rw [if_neg (by omega)]), hB1⟩ hs).mono ?_
  rintro r w2 ⟨_, _, hp⟩
  obtain ⟨g, rfl, hg, c2, e1, e2, e3⟩ := hp hoff hgood
  (repeat with_reducible first|refine z_c ?_|refine z_t (by omega) ?_|refine z_A ?_|refine z_B ?_)
  have hs1 := hb1.size
  refine ⟨g, gt, rfl, c2, fun k hk => by rw [e1 k (by omega), hcc k hk], e2, (Turns.of_below hb1).trans (e3.mono fun k hk e => ?_)⟩
  by_cases hk1 : k < w.heap.size
  · exact .inl ((hcc k hk1).symm.trans e)
  · exact .inr (by omega)
end Go.Proofs.Ytadbpelpbaikiaa.E
namespace Go.Proofs.Ytadbpelpbaikiaa.E
open Go Go.RowKit
set_option linter.unusedSimpArgs false
set_option linter.unusedVariables false

theorem wraps_flat (l : List (List UInt8)) : (l.map Frame.wrap).flatten = Frame.cat l := rfl
theorem wraps_pos (l : List (List UInt8)) : ∀ p ∈ l.map Frame.wrap, 0 < p.length := fun p hp => by
  obtain ⟨b, _, rfl⟩ := List.mem_map.1 hp
  rw [Frame.wrap_length]; omega
/-- What a crash leaves of frames. -/
theorem crashed_wraps (l : List (List UInt8)) (keep torn : Int) (hl : ∀ p ∈ l, p.length ≤ 65536) :
    ∃ r, crashed (l.map Frame.wrap) keep torn = Frame.cat (l.take (min (max keep 0) l.length).toNat) ++ r ∧ (Frame.view r).2.2 ≠ 0 ∧ r.length ≤ 65544 := by
  unfold crashed
  rw [List.length_map]
  generalize hk : (min (max keep 0) (l.length : Int)).toNat = k
  refine ⟨_, by rw [← List.map_take, wraps_flat], ?_⟩
  split
  · rename_i hlt
    have hget : (l.map Frame.wrap).getD k [] = Frame.wrap l[k] := by
      rw [List.getD_eq_getElem?_getD, List.getElem?_eq_getElem (by simpa using hlt)]; simp
    rw [hget]
    have := hl l[k] (List.getElem_mem _)
    have hw := Frame.wrap_length l[k]
    exact ⟨Frame.view_cut l[k] this _ (by rw [hw]; omega), by rw [List.length_take]; omega⟩
  · exact ⟨Frame.view_short [] (by simp), by simp⟩
def dkO (h : Nat) (gd : Nat) (d : Dk) (hp : 0 < h ∧ h < 999) : Ob9 where
  hu := h
  ok := fun c w => DkH h c w gd d
  pos := hp
  turns := fun hD hT hG => hD.turns hT fun k hk => (hG k hk).1
  re := fun hD hc => hD.re hc
def vlO (h : Nat) (g gd gt : Nat) (V : VsT) (hp : 0 < h ∧ h < 999) : Ob9 where
  hu := h
  ok := fun c w => VlH h c w g gd gt V
  pos := hp
  turns := fun hD hT hG => hD.turns hT fun k hk => (hG k hk).1
  re := fun hD hc => hD.re hc
theorem MemX.one {w0 w : World} {o : Ob9} {B : List Ob9} (h : MemX w0 w (o :: B)) (hd : ∀ x ∈ B, x.hu ≠ o.hu) : ∃ c, o.ok c w ∧ ∀ (o' : Ob9) (w' : World), Lft o.hu c w (fun c' w' => o'.ok c' w') w' → MemX w0 w' (o' :: B) := by
  obtain ⟨c, h1, _, h3⟩ := h.call hd
  refine ⟨c, h1, fun o' w' ⟨c', e1, e2, e3⟩ => h3 [o'] w' ⟨c', e1, fun x hx => ?_, e3⟩⟩
  simp only [List.mem_cons, List.not_mem_nil, or_false] at hx
  subst hx
  exact e2
structure VmT where
  room : Nat
  ck : Bool
  base : Txt
  a : List Txt
  b : List Txt
  n : Int
  m : Int
def VmT.s (M : VmT) : Txt := M.base ++ allV (M.a ++ M.b)
def VmT.d (M : VmT) : Dk := ⟨M.room, true, if M.ck then 61 :: M.base else [], Frame.cat M.a, M.b.map Frame.wrap⟩
def VmT.v (M : VmT) : VsT := ⟨M.d, M.s, M.n, M.m⟩
structure VmOk (M : VmT) : Prop where
  nock : M.ck = false → M.base = []
  short : ∀ c ∈ M.a ++ M.b, c.length ≤ 65536
  size : M.s.length ≤ 20000
  many : (M.a ++ M.b).length ≤ 1000
  room : M.room ≤ 4194304
  n : -1000 ≤ M.n ∧ M.n ≤ 1000
  m : -1000 ≤ M.m ∧ M.m ≤ 1000
theorem VmT.used (M : VmT) : M.d.used = (if M.ck then M.base.length + 9 else 0) + (M.a ++ M.b).flatten.length + 8 * (M.a ++ M.b).length := by
  have e1 : M.d.used = costL M.d.state + (Frame.cat M.a).length + (Frame.cat M.b).length := rfl
  rw [e1, Frame.cat_length, Frame.cat_length, List.flatten_append, List.length_append, List.length_append]
  have e2 : costL M.d.state = if M.ck then M.base.length + 9 else 0 := by
    unfold VmT.d costL
    cases M.ck <;> simp
  rw [e2]; omega
theorem VmT.slen (M : VmT) : M.s.length = M.base.length + (M.a ++ M.b).flatten.length + (M.a ++ M.b).length := by
  unfold VmT.s
  rw [List.length_append, allV_len]; omega
theorem VmOk.small {M : VmT} (h : VmOk M) : M.d.small := by
  have h1 := M.used
  have h2 := M.slen
  have h3 := h.size
  have h4 := h.many
  have h5 := h.room
  have h6 : M.b.length ≤ (M.a ++ M.b).length := by rw [List.length_append]; omega
  refine ⟨?_, ?_, h5⟩
  · rw [h1]; split <;> omega
  · show (M.b.map Frame.wrap).length ≤ 100000
    rw [List.length_map]; omega
theorem VmOk.slen {M : VmT} (h : VmOk M) : M.v.s.length ≤ 20000 := h.size
/-- A command laid into the log. -/
def VmT.do_ (M : VmT) (c : Txt) : VmT := { M with b := M.b ++ [c], n := M.n + 1, m := M.m + 1 }
theorem VmT.do_s (M : VmT) (c : Txt) : (M.do_ c).s = M.s ++ c ++ [124] := by
  unfold VmT.s VmT.do_
  simp only [allV_append, allV_one, List.append_assoc]
def VmT.full (M : VmT) (c : Txt) : Prop := M.room < M.d.used + (8 + c.length)
instance (M : VmT) (c : Txt) : Decidable (M.full c) := inferInstanceAs (Decidable (_ < _))
theorem do_ans (M : VmT) (c : Txt) (hc : c.length ≤ 65536) : appendAns M.v.d c = if M.full c then 6 else 0 := by
  unfold appendAns VmT.full
  rw [if_neg (by show ¬ true = false; decide), if_neg (by omega)]
  rfl
theorem do_v (M : VmT) (c : Txt) (hc : c.length ≤ 65536) : M.v.do_ c = if M.full c then M.v else (M.do_ c).v := by
  unfold VsT.do_
  rw [do_ans M c hc]
  by_cases hf : M.full c
  · rw [if_pos hf, if_pos hf, if_neg (by decide)]
  · rw [if_neg hf, if_neg hf, if_pos rfl]
    have e := M.do_s c
    unfold VmT.v VsT.did
    rw [e]
    unfold VmT.d VmT.do_ Dk.appended
    simp
def VmT.sync (M : VmT) : VmT := { M with a := M.a ++ M.b, b := [] }
theorem sync_s (M : VmT) : M.sync.s = M.s := by simp [VmT.sync, VmT.s]
theorem sync_v (M : VmT) : ({ M.v with d := M.v.d.synced } : VsT) = M.sync.v := by
  have e := sync_s M
  unfold VmT.v
  rw [e]
  unfold VmT.d VmT.sync Dk.synced
  simp only [VsT.mk.injEq, Dk.mk.injEq, true_and, and_true, List.map_nil]
  rw [Frame.cat_append]
  rfl
theorem VmOk.sync {M : VmT} (h : VmOk M) : VmOk M.sync := by
  have e : M.sync.a ++ M.sync.b = M.a ++ M.b := by simp [VmT.sync]
  exact ⟨h.nock, by rw [e]; exact h.short, by rw [sync_s]; exact h.size, by rw [e]; exact h.many, h.room, h.n, h.m⟩
/-- The state laid down. -/
def VmT.settle (M : VmT) : VmT := { M with ck := true, base := M.s, a := [], b := [] }
theorem settle_s (M : VmT) : M.settle.s = M.s := by simp [VmT.settle, VmT.s, allV]
theorem VmOk.settle {M : VmT} (h : VmOk M) : VmOk M.settle := by
  have e : M.settle.a ++ M.settle.b = [] := rfl
  exact ⟨fun e => (by cases e), by rw [e]; simp, by rw [settle_s]; exact h.size, by rw [e]; simp, h.room, h.n, h.m⟩
theorem settle_ans (M : VmT) : checkAns M.v.d.synced (61 :: M.v.s) = if M.room < M.s.length + 9 then 6 else 0 := by
  have e : costL (61 :: M.v.s) = M.s.length + 9 := by
    unfold costL
    rw [if_neg (by simp)]
    show M.s.length + 1 + 8 = _
    omega
  unfold checkAns
  rw [if_neg (by show ¬ true = false; decide), if_neg (by show ¬ 0 < ([] : List Txt).length; decide), e]
  rfl
theorem settle_v (M : VmT) : M.v.settled = if M.room < M.s.length + 9 then M.sync.v else M.settle.v := by
  unfold VsT.settled
  rw [settle_ans]
  by_cases hf : M.room < M.s.length + 9
  · rw [if_pos hf, if_pos hf, if_neg (by decide)]
    exact sync_v M
  · rw [if_neg hf, if_neg hf, if_pos rfl]
    have e := settle_s M
    unfold VmT.v
    rw [e]
    rfl
/-- How many waiting commands a crash keeps. -/
def keepN (keep : Int) (l : List Txt) : Nat := (min (max keep 0) l.length).toNat
def VmT.crash (M : VmT) (keep : Int) : VmT := { M with a := M.a ++ M.b.take (keepN keep M.b), b := [], n := (M.a ++ M.b.take (keepN keep M.b)).length, m := (M.a ++ M.b.take (keepN keep M.b)).length }
theorem crash_wf {M : VmT} (h : VmOk M) (keep torn : Int) : (∃ r, (M.d.crash keep torn).log = Frame.cat (M.a ++ M.b.take (keepN keep M.b)) ++ r ∧ (Frame.view r).2.2 ≠ 0 ∧ r.length ≤ 65544) ∧ (∀ p ∈ M.a ++ M.b.take (keepN keep M.b), p.length ≤ 65536) := by
  refine ⟨?_, fun p hp => h.short p ?_⟩
  · obtain ⟨r, e1, e2, e3⟩ := crashed_wraps M.b keep torn fun p hp => h.short p (List.mem_append_right _ hp)
    refine ⟨r, ?_, e2, e3⟩
    show Frame.cat M.a ++ crashed (M.b.map Frame.wrap) keep torn = _
    rw [e1, Frame.cat_append, List.append_assoc]
    rfl
  · rcases List.mem_append.1 hp with hp | hp
    · exact List.mem_append_left _ hp
    · exact List.mem_append_right _ (List.mem_of_mem_take hp)
theorem crash_scan {M : VmT} (h : VmOk M) (keep torn : Int) : Frame.scan (M.d.crash keep torn).log = (M.a ++ M.b.take (keepN keep M.b), (Frame.cat (M.a ++ M.b.take (keepN keep M.b))).length) := by
  obtain ⟨⟨r, e1, e2, _⟩, hs⟩ := crash_wf h keep torn
  rw [e1]
  exact Frame.scan_cat _ r hs e2
theorem crash_v {M : VmT} (h : VmOk M) (keep torn : Int) : openV (M.d.crash keep torn) = (M.crash keep).v := by
  have hsc := crash_scan h keep torn
  obtain ⟨⟨r, e1, e2, _⟩, hs⟩ := crash_wf h keep torn
  have hst : (M.d.crash keep torn).state = M.d.state := rfl
  unfold openV Dk.started VsT.didAll
  rw [hsc]
  have hlog : (M.d.crash keep torn).log.take (Frame.cat (M.a ++ M.b.take (keepN keep M.b))).length = Frame.cat (M.a ++ M.b.take (keepN keep M.b)) := by rw [e1, List.take_left]
  simp only [hlog, hst]
  unfold VmT.v
  have es : (M.crash keep).s = M.base ++ allV (M.a ++ M.b.take (keepN keep M.b)) := by simp [VmT.crash, VmT.s]
  have ed : M.d.state.drop 1 = M.base := by
    unfold VmT.d
    cases hk : M.ck
    · rw [h.nock hk]; rfl
    · rfl
  rw [es, ed]
  simp only [VmT.crash, Int.zero_add]
  rfl
theorem crash_len {M : VmT} (keep : Int) : (M.a ++ M.b.take (keepN keep M.b)).length ≤ (M.a ++ M.b).length ∧ (allV (M.a ++ M.b.take (keepN keep M.b))).length ≤ (allV (M.a ++ M.b)).length := by
  constructor
  · rw [List.length_append, List.length_append, List.length_take]; omega
  · rw [allV_append, allV_append, List.length_append, List.length_append]
    have := List.take_append_drop (keepN keep M.b) M.b
    have e : allV M.b = allV (M.b.take (keepN keep M.b)) ++ allV (M.b.drop (keepN keep M.b)) := by rw [← allV_append, this]
    rw [e, List.length_append]; omega
theorem VmOk.crash {M : VmT} (h : VmOk M) (keep : Int) : VmOk (M.crash keep) := by
  obtain ⟨l1, l2⟩ := crash_len (M := M) keep
  have e : (M.crash keep).a ++ (M.crash keep).b = M.a ++ M.b.take (keepN keep M.b) := by simp [VmT.crash]
  have hm := h.many
  have hz := h.size
  have hs := (crash_wf h keep 0).2
  refine ⟨h.nock, by rw [e]; exact hs, ?_, by rw [e]; omega, h.room, ?_, ?_⟩
  · have : (M.crash keep).s = M.base ++ allV (M.a ++ M.b.take (keepN keep M.b)) := by simp [VmT.crash, VmT.s]
    rw [this, List.length_append]
    unfold VmT.s at hz
    rw [List.length_append] at hz
    omega
  · show -1000 ≤ (((M.a ++ M.b.take (keepN keep M.b)).length : Nat) : Int) ∧ (((M.a ++ M.b.take (keepN keep M.b)).length : Nat) : Int) ≤ 1000
    omega
  · show -1000 ≤ (((M.a ++ M.b.take (keepN keep M.b)).length : Nat) : Int) ∧ (((M.a ++ M.b.take (keepN keep M.b)).length : Nat) : Int) ≤ 1000
    omega
end Go.Proofs.Ytadbpelpbaikiaa.E
namespace Go.Proofs.Ytadbpelpbaikiaa.E
open Go Go.RowKit
set_option linter.unusedSimpArgs false
set_option linter.unusedVariables false

section
variable {w0 w : World} {h g gd gt : Nat} {hp : 0 < h ∧ h < 999} {M : VmT} {B : List Ob9}
theorem vdo (hM : MemX w0 w (vlO h g gd gt M.v hp :: B)) (hd : ∀ x ∈ B, x.hu ≠ h) (hok : VmOk M) (cmd : Txt) (hc : cmd.length ≤ 65536) :
    CallP Try.prog 17 #[.pointer (some ⟨g, 0, none⟩), tS cmd] (fun r w' => r = .tuple #[tS (if M.full cmd then [] else digV M.s.length), .int .i64 (if M.full cmd then 6 else 0 : Nat)] ∧ MemX w0 w' (vlO h g gd gt (if M.full cmd then M.v else (M.do_ cmd).v) hp :: B)) w := by
  obtain ⟨c, h1, h2⟩ := hM.one hd
  have hz := hok.size
  have hsl : M.v.s.length ≤ 20000 := hz
  have hn := hok.n
  have hm := hok.m
  refine (Do17 (h := h) (c := c) (V := M.v) h1 cmd hok.small (by omega) (by show -1000000 ≤ M.n ∧ M.n ≤ 1000000; omega) (by show -1000000 ≤ M.m ∧ M.m ≤ 1000000; omega)).mono ?_
  rintro r w' ⟨rfl, hL⟩
  rw [do_v M cmd hc] at hL
  rw [do_ans M cmd hc]
  refine ⟨?_, h2 (vlO h g gd gt (if M.full cmd then M.v else (M.do_ cmd).v) hp) w' hL⟩
  by_cases hf : M.full cmd
  · rw [if_pos hf, if_pos hf, if_neg (by decide)]
  · rw [if_neg hf, if_neg hf, if_pos rfl]; rfl
theorem vsync (hM : MemX w0 w (vlO h g gd gt M.v hp :: B)) (hd : ∀ x ∈ B, x.hu ≠ h) (hok : VmOk M) :
    CallP Try.prog 19 #[.pointer (some ⟨g, 0, none⟩)] (fun r w' => r = .int .i64 0 ∧ MemX w0 w' (vlO h g gd gt M.sync.v hp :: B)) w := by
  obtain ⟨c, h1, h2⟩ := hM.one hd
  refine (Sync19 (h := h) (c := c) (V := M.v) h1 hok.small rfl).mono ?_
  rintro r w' ⟨rfl, hL⟩
  rw [sync_v M] at hL
  exact ⟨rfl, h2 (vlO h g gd gt M.sync.v hp) w' hL⟩
theorem vsettle (hM : MemX w0 w (vlO h g gd gt M.v hp :: B)) (hd : ∀ x ∈ B, x.hu ≠ h) (hok : VmOk M) :
    CallP Try.prog 18 #[.pointer (some ⟨g, 0, none⟩)] (fun r w' => r = .int .i64 (if M.room < M.s.length + 9 then 6 else 0 : Nat) ∧ MemX w0 w' (vlO h g gd gt (if M.room < M.s.length + 9 then M.sync.v else M.settle.v) hp :: B)) w := by
  obtain ⟨c, h1, h2⟩ := hM.one hd
  have hz := hok.size
  have hs2 : M.v.d.synced.small := by
    have e := congrArg VsT.d (sync_v M)
    have e : M.v.d.synced = M.sync.v.d := e
    rw [e]; exact hok.sync.small
  refine (Settle18 (h := h) (c := c) (V := M.v) h1 hok.small hs2 rfl (by show M.s.length ≤ 900000; omega)).mono ?_
  rintro r w' ⟨rfl, hL⟩
  rw [settle_v M] at hL
  rw [settle_ans M]
  exact ⟨rfl, h2 (vlO h g gd gt (if M.room < M.s.length + 9 then M.sync.v else M.settle.v) hp) w' hL⟩
theorem vcrash (hM : MemX w0 w (vlO h g gd gt M.v hp :: B)) (hd : ∀ x ∈ B, x.hu ≠ h) (hok : VmOk M) (keep torn : Int) :
    CallP Try.prog 12 #[.pointer (some ⟨gd, 0, none⟩), .int .i64 keep, .int .i64 torn] (fun r w' => r = .tuple #[] ∧ MemX w0 w' (dkO h gd (M.d.crash keep torn) hp :: B)) w := by
  obtain ⟨c, ⟨cd, e1, e2, _⟩, h2⟩ := hM.one hd
  refine (Crash_spec cd w gd M.d keep torn e2 hok.small fun p hp' => wraps_pos M.b p hp').mono ?_
  rintro r w' ⟨rfl, hL⟩
  rw [if_pos (show M.d.on = true from rfl)] at hL
  obtain ⟨c', cd', f1, _, f3, f4, _, f6⟩ := disk_step e1 hL
  exact ⟨rfl, h2 (dkO h gd (M.d.crash keep torn) hp) w' ⟨c', f1, ⟨cd', f3, f4⟩, f6⟩⟩
theorem vopenD {d : Dk} (hM : MemX w0 w (dkO h gd d hp :: B)) (hd : ∀ x ∈ B, x.hu ≠ h) (hsm : d.small) (hoff : d.on = false) (hgood : d.state = [] ∨ ldOk d.state = true) (hs : d.state.length + (allV (Frame.scan d.log).1).length ≤ 900000) :
    CallP Try.prog 16 #[.pointer (some ⟨gd, 0, none⟩)] (fun r w' => ∃ g gt, r = .tuple #[.pointer (some ⟨g, 0, none⟩), .pointer (some ⟨gt, 0, none⟩)] ∧ MemX w0 w' (vlO h g gd gt (openV d) hp :: B)) w := by
  obtain ⟨c, h1, h2⟩ := hM.one hd
  refine (opened16 (h := h) hp.1 (c := c) h1 hsm hoff hgood hs).mono ?_
  rintro r w' ⟨g, gt, rfl, hL⟩
  exact ⟨g, gt, rfl, h2 (vlO h g gd gt (openV d) hp) w' hL⟩
theorem vopen {keep torn : Int} (hM : MemX w0 w (dkO h gd (M.d.crash keep torn) hp :: B)) (hd : ∀ x ∈ B, x.hu ≠ h) (hok : VmOk M) :
    CallP Try.prog 16 #[.pointer (some ⟨gd, 0, none⟩)] (fun r w' => ∃ g gt, r = .tuple #[.pointer (some ⟨g, 0, none⟩), .pointer (some ⟨gt, 0, none⟩)] ∧ MemX w0 w' (vlO h g gd gt (M.crash keep).v hp :: B)) w := by
  obtain ⟨⟨r, e1, e2, e3⟩, _⟩ := crash_wf hok keep torn
  obtain ⟨l1, l2⟩ := crash_len (M := M) keep
  have hz := hok.size
  have hsl := M.slen
  have hm := hok.many
  have hst : (M.d.crash keep torn).state = if M.ck then 61 :: M.base else [] := rfl
  have hstl : (M.d.crash keep torn).state.length ≤ 20001 := by
    rw [hst]; split <;> simp; omega
  have hfl : (M.a ++ M.b.take (keepN keep M.b)).flatten.length ≤ 20000 := by
    have := allV_len (M.a ++ M.b.take (keepN keep M.b))
    have h3 := allV_len (M.a ++ M.b)
    omega
  rw [← crash_v hok keep torn]
  refine vopenD hM hd ?_ rfl ?_ ?_
  · refine ⟨?_, by show (0 : Nat) ≤ 100000; omega, hok.room⟩
    have hu : (M.d.crash keep torn).used = costL (M.d.crash keep torn).state + (M.d.crash keep torn).log.length + 0 := rfl
    rw [hu, e1, List.length_append, Frame.cat_length]
    have : costL (M.d.crash keep torn).state ≤ (M.d.crash keep torn).state.length + 8 := by unfold costL; split <;> omega
    omega
  · rw [hst]
    cases M.ck
    · exact .inl rfl
    · exact .inr rfl
  · rw [crash_scan hok keep torn]
    have := allV_len (M.a ++ M.b.take (keepN keep M.b))
    show _ + (allV (M.a ++ M.b.take (keepN keep M.b))).length ≤ 900000
    omega
theorem vtape {V : VsT} {L : List Ob9} (hM : MemX w0 w L) (hm : vlO h g gd gt V hp ∈ L) : Blk w gt 37 (tpC V.s V.n) := by
  obtain ⟨c, _, h2⟩ := hM.look
  obtain ⟨cd, _, _, _, _, _, hB⟩ := h2 _ hm
  exact hB
theorem vsure {V : VsT} {L : List Ob9} (hM : MemX w0 w L) (hm : vlO h g gd gt V hp ∈ L) :
    CallP Try.prog 22 #[.pointer (some ⟨g, 0, none⟩)] (fun r w' => r = .bool (decide (V.d.waits.length = 0)) ∧ w = w') w := by
  obtain ⟨c, _, h2⟩ := hM.look
  exact Sure22 (h := h) (c := c) (h2 _ hm)
theorem vcount {V : VsT} {L : List Ob9} (hM : MemX w0 w L) (hm : vlO h g gd gt V hp ∈ L) :
    CallP Try.prog 14 #[.pointer (some ⟨g, 0, none⟩)] (fun r w' => r = .int .i64 V.m ∧ w = w') w := by
  obtain ⟨c, _, h2⟩ := hM.look
  exact Count14 (h := h) (c := c) (h2 _ hm)
theorem vnew {L : List Ob9} (hM : MemX w0 w L) (hp : 0 < h ∧ h < 999) (room : Nat) (hr : room ≤ 4194304) :
    CallP Try.prog 8 #[.int .i64 room] (fun r w' => ∃ gd, r = .tuple #[.pointer (some ⟨gd, 0, none⟩), .int .i64 0] ∧ MemX w0 w' (dkO h gd ⟨room, false, [], [], []⟩ hp :: L)) w := by
  obtain ⟨c, h1, h2⟩ := hM.make
  refine (New_spec w room (by omega)).mono ?_
  rintro r w' ⟨hr', hb⟩
  rw [if_neg (by omega)] at hr'
  obtain ⟨gd, cd, rfl, e1, e2⟩ := hr'
  rw [Int.toNat_natCast] at e2
  refine ⟨gd, rfl, h2 [dkO h gd ⟨room, false, [], [], []⟩ hp] w' ⟨fun k => if k < w.heap.size then c k else if cd k = 0 then 0 else h, fun k hk => if_pos hk, fun x hx => ?_, hb⟩⟩
  simp only [List.mem_cons, List.not_mem_nil, or_false] at hx
  subst hx
  refine ⟨cd, fun k hk => ?_, e2⟩
  by_cases e : k < w.heap.size
  · exact absurd (e1 k e) hk
  · show (if k < w.heap.size then c k else if cd k = 0 then 0 else h) = h
    rw [if_neg e, if_neg hk]
end
def vm0 (room : Nat) : VmT := ⟨room, false, [], [], [], 0, 0⟩
theorem open0 (room : Nat) : openV ⟨room, false, [], [], []⟩ = (vm0 room).v := by
  unfold openV
  rw [started_nil]
  simp [scan_nil0, VsT.didAll, VmT.v, vm0, VmT.d, VmT.s, allV, Frame.cat]
theorem vm0_ok (room : Nat) (h : room ≤ 4194304) : VmOk (vm0 room) := ⟨fun _ => rfl, by simp [vm0], by simp [vm0, VmT.s, allV], by simp [vm0], h, by dsimp only [vm0]; decide, by dsimp only [vm0]; decide⟩
theorem vopen0 {w0 w : World} {h gd : Nat} {hp : 0 < h ∧ h < 999} {B : List Ob9} (room : Nat) (hr : room ≤ 4194304) (hM : MemX w0 w (dkO h gd ⟨room, false, [], [], []⟩ hp :: B)) (hd : ∀ x ∈ B, x.hu ≠ h) :
    CallP Try.prog 16 #[.pointer (some ⟨gd, 0, none⟩)] (fun r w' => ∃ g gt, r = .tuple #[.pointer (some ⟨g, 0, none⟩), .pointer (some ⟨gt, 0, none⟩)] ∧ MemX w0 w' (vlO h g gd gt (vm0 room).v hp :: B)) w := by
  rw [← open0]
  refine vopenD hM hd ⟨?_, by show (0 : Nat) ≤ 100000; omega, hr⟩ rfl (.inl rfl) ?_
  · show costL [] + 0 + 0 ≤ 900000
    unfold costL; simp
  · show 0 + (allV (Frame.scan []).1).length ≤ 900000
    rw [scan_nil0]
    simp [allV]
theorem VmOk.do_ {M : VmT} (h : VmOk M) (c : Txt) (hc : c.length ≤ 65536) (hz : M.s.length + c.length + 1 ≤ 20000) (hm : (M.a ++ M.b).length + 1 ≤ 1000) (hn : M.n + 1 ≤ 1000 ∧ M.m + 1 ≤ 1000) : VmOk (M.do_ c) := by
  have e : (M.do_ c).a ++ (M.do_ c).b = M.a ++ M.b ++ [c] := by simp [VmT.do_]
  have h1 := h.n
  have h2 := h.m
  refine ⟨h.nock, ?_, ?_, ?_, h.room, by show -1000 ≤ M.n + 1 ∧ M.n + 1 ≤ 1000; omega, by show -1000 ≤ M.m + 1 ∧ M.m + 1 ≤ 1000; omega⟩
  · rw [e]
    intro p hp
    rcases List.mem_append.1 hp with hp | hp
    · exact h.short p hp
    · rw [List.mem_singleton.1 hp]; exact hc
  · rw [M.do_s c]
    simp only [List.length_append, List.length_cons, List.length_nil]
    omega
  · rw [e]
    simp only [List.length_append, List.length_cons, List.length_nil] at hm ⊢
    omega
set_option maxHeartbeats 1000000 in
theorem awake7 (w : World) : CallP Try.prog 7 #[] (fun r w' => r = .bool true ∧ Below w.heap.size w w') w := by
  refine ⟨S7.calls _ _ ?_⟩
  unfold S7
  refine (vnew (h := 1) (MemX.nil w) (by omega) 1000 (by omega)).mono ?_
  rintro _ w1 ⟨gd, rfl, hM1⟩
  (repeat with_reducible first|refine z_A ?_|refine z_B ?_)
  refine (vopen0 1000 (by omega) hM1 (by simp)).mono ?_
  rintro _ w2 ⟨g, gt, rfl, hM2⟩
  (repeat with_reducible first|refine z_A ?_|refine z_B ?_)
  refine ofPR (pr_pnil undVp) ?_
  simp only [Option.isNone_some]
  (repeat with_reducible first|refine z_c ?_)
  have ok0 := vm0_ok 1000 (by omega)
  have nf0 : ¬ (vm0 1000).full [97] := by
    unfold VmT.full
    rw [VmT.used]
    simp [vm0]
  refine (vdo hM2 (by simp) ok0 [97] (by simp)).mono ?_
  rintro _ w3 ⟨rfl, hM3⟩
  rw [if_neg nf0] at hM3
  rw [if_neg nf0, if_neg nf0]
  have ok1 : VmOk ((vm0 1000).do_ [97]) := ok0.do_ _ (by simp) (by simp [vm0, VmT.s, allV]) (by simp [vm0]) (by dsimp only [vm0]; decide)
  (repeat with_reducible first|refine z_A ?_|refine z_B ?_)
  refine (vsync hM3 (by simp) ok1).mono ?_
  rintro _ w4 ⟨rfl, hM4⟩
  have ok2 := ok1.sync
  have nf2 : ¬ ((vm0 1000).do_ [97]).sync.full [98] := by
    unfold VmT.full
    rw [VmT.used]
    simp [vm0, VmT.do_, VmT.sync]
  refine (vdo hM4 (by simp) ok2 [98] (by simp)).mono ?_
  rintro _ w5 ⟨rfl, hM5⟩
  rw [if_neg nf2] at hM5
  have ok3 : VmOk (((vm0 1000).do_ [97]).sync.do_ [98]) := ok2.do_ _ (by simp) (by simp [vm0, VmT.s, allV, VmT.do_, VmT.sync]) (by simp [vm0, VmT.do_, VmT.sync]) (by dsimp only [vm0, VmT.do_, VmT.sync]; decide)
  refine (vcrash hM5 (by simp) ok3 0 0).mono ?_
  rintro _ w6 ⟨rfl, hM6⟩
  refine (vopen hM6 (by simp) ok3).mono ?_
  rintro _ w7 ⟨g', gt', rfl, hM7⟩
  have hs7 : ((((vm0 1000).do_ [97]).sync.do_ [98]).crash 0).v.s = [97, 124] := by rfl
  have hm7 : ((((vm0 1000).do_ [97]).sync.do_ [98]).crash 0).v.m = 1 := by rfl
  have hB := vtape hM7 (List.mem_cons_self ..)
  have c0 : w7.cell? ⟨gt', 0, none⟩ = some (tS [97, 124]) := by rw [← hs7]; exact hB.cell 0
  (repeat with_reducible first|refine z_A ?_|refine z_B ?_)
  refine ofPR (pr_pnot undVp) ?_
  simp only [Option.isSome_some]
  (repeat with_reducible first|refine z_d ?_)
  refine tl_eql_t (t := digV (vm0 1000).s.length) (u := [48]) (by show digV 0 = [48]; rw [digV, dif_pos (by omega)]; rfl) ?_
  (repeat with_reducible first|refine fd t0 (by decide) ?_|refine ld oneT c0 ?_|refine z_a ?_|refine z_d ?_|refine z_k ?_|refine z_q (by omega) ?_)
  refine tl_eql_t (t := [97, 124]) (u := [97, 124]) rfl ?_
  (repeat with_reducible first|refine z_d ?_|refine z_k ?_)
  refine (vcount hM7 (List.mem_cons_self ..)).mono ?_
  rintro _ _ ⟨rfl, rfl⟩
  rw [hm7]
  (repeat with_reducible first|refine z_d ?_|refine z_k ?_|refine z_q (by omega) ?_)
  exact ⟨by first | rfl | trivial, hM7.bel⟩
end Go.Proofs.Ytadbpelpbaikiaa.E
