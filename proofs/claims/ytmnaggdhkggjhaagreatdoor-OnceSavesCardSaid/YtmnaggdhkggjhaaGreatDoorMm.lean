import Derived.Test.YtmnaggdhkggjhaaGreatDoorMl
namespace Go.Proofs.YtmnaggdhkggjhaaGreatDoor.E
open Go Go.Proofs Go.RowKit
set_option linter.unusedSimpArgs false
set_option linter.unusedVariables false

theorem sv_of {bs : List UInt8} {T : List (Int × Cli)} (hb : bs.length ≤ 200000) (hw : weight (absT T) ≤ bs.length) (hok : ∀ p ∈ absT T, okC p) : SvOk T := by
  have e : weight (absT T) = 3 * T.length + 5 * (T.map fun p => p.2.l.length).sum := by
    unfold weight absT
    rw [List.map_map]
    have h := sum_add 3 5 (fun p : Int × Cli => p.2.l.length) T
    rw [← h]
    congr 1
    refine List.map_congr_left fun p _ => ?_
    show 3 + 5 * (absL p.2.l).length = _
    rw [absL, List.length_map]
  refine ⟨by omega, by omega, fun p hp => ?_⟩
  obtain ⟨h1, h2, h3⟩ := hok (p.1, absC p.2) (List.mem_map.2 ⟨p, hp, rfl⟩)
  exact ⟨h1, h2, fun q hq => h3 (q.1, q.2.abs) (List.mem_map.2 ⟨q, hq, rfl⟩)⟩
theorem ptr_getT {T : List (Int × Cli)} {k : Int} {u : Value} (h : getK k (T.map fun p => (p.1, Value.pointer (some ⟨p.2.gc, 0, none⟩))) = some u) : ∃ C, getK k T = some C ∧ u = .pointer (some ⟨C.gc, 0, none⟩) := by
  rw [getK_map (fun C : Cli => Value.pointer (some ⟨C.gc, 0, none⟩))] at h
  cases hg : getK k T with
  | none => rw [hg] at h; cases h
  | some C => rw [hg] at h; cases h; exact ⟨C, rfl, rfl⟩
theorem filter_len_lt {todo : List Int} {k : Int} (h : k ∈ todo) : (todo.filter fun j => decide (j ≠ k)).length < todo.length :=
  List.length_filter_lt_length_iff_exists.2 ⟨k, h, by simp⟩
/-- What Load leaves. -/
structure LoadPost (hu : Nat) (c0 : Nat → Nat) (w : World) (bs : List UInt8) (r : Value) (w' : World) : Prop where
  no : loadP bs = none → r = .tuple #[.pointer none, .int .i64 3]
  yes : ∀ A, loadP bs = some A → ∃ (g : Nat) (c' : Nat → Nat) (T : List (Int × Cli)), r = .tuple #[.pointer (some ⟨g, 0, none⟩), .int .i64 0] ∧ (∀ k, k < w.heap.size → c' k = c0 k) ∧ TabC hu c' w' g T ∧ absT T = A ∧ SvOk T
  bel : Below w.heap.size w w'
theorem LoadPost.refused {hu : Nat} {c0 : Nat → Nat} {w w' : World} {bs : List UInt8} (hn : loadP bs = none) (hb : Below w.heap.size w w') : LoadPost hu c0 w bs (.tuple #[.pointer none, .int .i64 3]) w' :=
  ⟨fun _ => rfl, fun A hA => (by rw [hn] at hA; cases hA), hb⟩
set_option maxHeartbeats 8000000 in
theorem Load9 (hu : Nat) (hh : 0 < hu ∧ hu < 1000) (c0 : Nat → Nat) (w : World) (hfree : ∀ k, k < w.heap.size → c0 k % 1000 ≠ hu) (bs : List UInt8) (hs : bs.length ≤ 200000) (hm : Pl.GMx w) :
    CallP Tryz.prog 9 #[tS bs] (LoadPost hu c0 w bs) w := by
  refine ⟨S9.calls _ _ _ ?_⟩
  unfold S9
  refine cvSB undT9 undB undU8 (by show bs.toArray.size ≤ _; simp; omega) ?_
  intro v w1 hv1 hb1
  have hv1 : RdB w1 v bs := by simpa using hv1
  obtain ⟨Av, cv, rfl, _⟩ := hv1.slice
  refine bd (cells := #[.slice Av bs.length cv, .int .i64 0, .bool false]) (by kernel_rfl) ?_
  refine bxB ?_
  intro gr w2 hgr hB2 hb2
  have hs1 := hb1.size
  have hvlt := rdB_lt hv1
  have hR2 : RdAt w2 gr (.slice Av bs.length cv) bs (0, false) := ⟨hB2, hv1.below hb2, Nat.zero_le _, hvlt.imp id fun h b hb e => by have := h b hb; omega⟩
  have hb12 := below_then hb1 hb2
  refine (New_tab hu hh (col c0 w.heap.size 0) w2).mono ?_
  rintro _ w3 ⟨g, c3, rfl, hc3, ht3, hb3⟩
  have hgl := hB2.lt
  have hs2 := hb2.size
  have hcl : ∀ k, k < w2.heap.size → c3 k % 1000 ≠ hu := fun k hk => by
    rw [hc3 k hk]
    rcases Nat.lt_or_ge k w.heap.size with h | h
    · rw [col_lt _ _ _ _ h]; exact hfree k h
    · rw [col_ge _ _ _ h]; omega
  have hL3 : LdS w hu c0 gr (.slice Av bs.length cv) bs g c3 w3 [] (0, false) := ⟨ht3, hR2.below hb3, by rw [hc3 _ hgl, col_ge _ _ _ (by omega)], hvlt.imp id fun h k hk => hcl k (by have := h k hk; omega), fun k hk => by rw [hc3 k (by omega), col_lt _ _ _ _ hk], hfree, by omega, below_then hb12 hb3⟩
  refine lnT und9 ?_
  refine (hL3.num bs.length (by show _ ≤ 1099511627776; omega) hs).mono ?_
  rintro _ w4 ⟨rfl, hL4⟩
  have hR0 : rClis bs (rNum bs bs.length (0, false)).1 (rNum bs bs.length (0, false)).2 (absT []) = rClis bs (rNum bs bs.length (0, false)).1 (rNum bs bs.length (0, false)).2 [] := rfl
  generalize hRES : rClis bs (rNum bs bs.length (0, false)).1 (rNum bs bs.length (0, false)).2 [] = RES at hR0
  have hgood : RES.2.2 = false → weight RES.1 ≤ bs.length ∧ ∀ p ∈ RES.1, okC p := fun h => load_good rfl hRES.symm h
  obtain ⟨hbadL, hokL⟩ := loadP_eq hRES
  have hk0 : (rNum bs bs.length (0, false)).2.2 = false → (rNum bs bs.length (0, false)).1 ≤ bs.length := fun h => (rNum_good h (Nat.zero_le _)).2.1
  clear hRES
  refine LoopP.inv1 (fun kv w' => ∃ (k m : Nat) (s : St) (c : Nat → Nat) (T : List (Int × Cli)), kv = .int .i64 k ∧ LdS w hu c0 gr (.slice Av bs.length cv) bs g c w' T s ∧ rClis bs k s (absT T) = RES ∧ (s.2 = false → m + k ≤ bs.length ∧ T.length ≤ m ∧ ∀ p ∈ T, p.2.l.length ≤ 4 * m)) (fun kv _ => (intOf kv).toNat) ⟨_, 0, _, c3, [], rfl, hL4, hR0, fun h => ⟨by have := hk0 h; omega, by simp, by simp⟩⟩ ?_
  clear hL4 hR0 hk0 hL3
  rintro _ w5 ⟨k, m, s, c, T, rfl, hL, hres, hbd⟩ J hJ
  dsimp only [List.headD_cons, List.tail_cons]
  refine loopGo (hL.rdr.blk.cell 2) ?_
  cases hgo : (decide (0 < k) && !s.2) with
  | true =>
    have hgo2 : 0 < k ∧ s.2 = false := by simpa using hgo
    obtain ⟨hb1', hb2', hb3'⟩ := hbd hgo2.2
    rw [rClis_go hgo] at hres
    (repeat with_reducible first|refine z_b ?_)
    refine (hL.num Most (Nat.le_refl _) hs).mono ?_
    rintro _ w6 ⟨rfl, hL6⟩
    refine (hL6.num Most (Nat.le_refl _) hs).mono ?_
    rintro _ w7 ⟨rfl, hL7⟩
    refine (hL7.client (rNum bs Most s).1 (rNum_lt _ _ _) (by omega)).mono ?_
    rintro _ w8 ⟨C, T8, c8, rfl, hx8, hold8, hl8, hset8, hL8⟩
    obtain ⟨p1, p2, hL9⟩ := hL8.floor hx8 (rNum bs Most (rNum bs Most s).2).1
    have hrc : rCli bs s (absT T) = (setK ((rNum bs Most s).1 : Int) (((rNum bs Most (rNum bs Most s).2).1 : Int), (rEnts bs (rNum bs 4 (rNum bs Most (rNum bs Most s).2).2).1 (rNum bs 4 (rNum bs Most (rNum bs Most s).2).2).2 (absL C.l)).1) (absT T), (rEnts bs (rNum bs 4 (rNum bs Most (rNum bs Most s).2).2).1 (rNum bs 4 (rNum bs Most (rNum bs Most s).2).2).2 (absL C.l)).2) := by
      rw [hold8]; rfl
    rw [hrc] at hres
    have hfloor : absT (setK ((rNum bs Most s).1 : Int) ⟨C.gc, C.br, (rNum bs Most (rNum bs Most s).2).1, C.l⟩ T8) = setK ((rNum bs Most s).1 : Int) (((rNum bs Most (rNum bs Most s).2).1 : Int), absL C.l) (absT T) := by rw [absT_set]; exact hset8 _
    generalize hid : ((rNum bs Most s).1 : Int) = id at *
    generalize hf : rNum bs Most (rNum bs Most s).2 = f at *
    (repeat with_reducible first|refine fd k0 (by decide) ?_|refine z_a ?_)
    refine st sz3 rfl p1 p2 ?_
    generalize w8.setCell ⟨C.gc, 0, none⟩ (.int .i64 f.1) = w9 at *
    refine (hL9.num 4 (by decide) hs).mono ?_
    rintro _ w10 ⟨rfl, hL10⟩
    have hk4 : (rNum bs 4 f.2).2.2 = false → (rNum bs 4 f.2).1 ≤ 4 := fun h => (rNum_good h hL9.rdr.le).2.1
    have hx9 : getK id (setK id ⟨C.gc, C.br, f.1, C.l⟩ T8) = some ⟨C.gc, C.br, f.1, C.l⟩ := getK_setK_same
    have hl9 : (setK id ⟨C.gc, C.br, (f.1 : Int), C.l⟩ T8).length ≤ T.length + 1 := by rw [setK_len hx8]; exact hl8
    have hlC : C.l.length ≤ 4 * m := by
      have : (absL C.l).length = C.l.length := by rw [absL, List.length_map]
      rw [← this, hold8]
      unfold oldL absT
      rw [getK_map absC]
      cases hg : getK id T with
      | none => simp
      | some C0 =>
        have := hb3' _ (getK_mem _ _ _ hg)
        simp only [Option.map_some, Option.getD_some, absC, absL, List.length_map]
        exact this
    have hb9 : ∀ p ∈ setK id ⟨C.gc, C.br, (f.1 : Int), C.l⟩ T8, p.2.l.length ≤ 4 * m := by
      intro p hp
      have hp2 : (p.1, absC p.2) ∈ setK id ((f.1 : Int), absL C.l) (absT T) := by
        rw [← hfloor]
        exact List.mem_map.2 ⟨p, hp, rfl⟩
      have hlp : (absL p.2.l).length = p.2.l.length := by rw [absL, List.length_map]
      rcases setK_mem hp2 with e | e
      · have e2 : absL p.2.l = absL C.l := congrArg (fun q : Int × VC => q.2.2) e
        rw [← hlp, e2, absL, List.length_map]
        exact hlC
      · obtain ⟨q, hq, e2⟩ := List.mem_map.1 e
        have e3 : absL q.2.l = absL p.2.l := congrArg (fun q : Int × VC => q.2.2) e2
        have := hb3' q hq
        rw [← hlp, ← e3, absL, List.length_map]
        exact this
    generalize setK id ⟨C.gc, C.br, (f.1 : Int), C.l⟩ T8 = T9 at *
    generalize hEN : rEnts bs (rNum bs 4 f.2).1 (rNum bs 4 f.2).2 (absL C.l) = EN at *
    refine LoopP.inv1 (fun kv w' => ∃ (k2 : Nat) (s2 : St) (c2 : Nat → Nat) (T2 : List (Int × Cli)) (l2 : List (Int × Rp)), kv = .int .i64 k2 ∧ LdS w hu c0 gr (.slice Av bs.length cv) bs g c2 w' T2 s2 ∧ getK id T2 = some ⟨C.gc, C.br, f.1, l2⟩ ∧ rEnts bs k2 s2 (absL l2) = EN ∧ absT T2 = setK id ((f.1 : Int), absL l2) (absT T) ∧ (s2.2 = false → k2 ≤ 4 ∧ T2.length ≤ m + 1 ∧ ∀ p ∈ T2, p.2.l.length + k2 ≤ 4 * m + 4)) (fun kv _ => (intOf kv).toNat) ⟨_, _, _, T9, C.l, rfl, hL10, hx9, hEN, hfloor, fun h => ⟨hk4 h, by omega, fun p hp => by have := hb9 p hp; have := hk4 h; omega⟩⟩ ?_
    clear hL10 hEN hk4 hb9 hfloor hx9 hL9 hl9
    rintro _ w11 ⟨k2, s2, c2, T2, l2, rfl, hL2, hx2, hen, hab, hbd2⟩ J2 hJ2
    dsimp only [List.headD_cons, List.tail_cons]
    refine loopGo (hL2.rdr.blk.cell 2) ?_
    cases hgo2' : (decide (0 < k2) && !s2.2) with
    | true =>
      have hgo3 : 0 < k2 ∧ s2.2 = false := by simpa using hgo2'
      obtain ⟨hk24, hT2l, hb2l⟩ := hbd2 hgo3.2
      rw [rEnts_go hgo2'] at hen
      (repeat with_reducible first|refine z_b ?_)
      refine (hL2.num Most (Nat.le_refl _) hs).mono ?_
      rintro _ w12 ⟨rfl, hL12⟩
      have hnlt := rNum_lt bs Most s2
      generalize hnn : rNum bs Most s2 = n2 at *
      obtain ⟨bm, ht12⟩ := hL12.tab
      have hC12 := (ht12.el _ (getK_mem _ _ _ hx2)).2
      have q1 : ∀ w' : World, (w'.cell? ⟨C.gc, 1, none⟩ = some (.map (some C.br)) ∧ True) → w'.cell? ⟨C.gc, 1, none⟩ = some (.map (some C.br)) := fun w' h => h.1
      have hdr12 : Below w12.heap.size w12 w12.drew := (Below.refl _ _).drew
      have hcc : w12.drew.cell? ⟨C.gc, 1, none⟩ = some (.map (some C.br)) := (hC12.blk.below' hdr12).cell 1
      refine draw (fun w' : World => w'.cell? ⟨C.gc, 1, none⟩ = some (.map (some C.br)) ∧ True) ⟨hcc, trivial⟩ ?_
      (repeat with_reducible first|refine yfd k1 (by decide) ?_|refine yl1 one66 q1 ?_|refine z_W ?_)
      refine act ?_
      have hL12d := hL12.below hdr12
      refine (reply26 hL12d.rdr hs).mono ?_
      rintro _ w13 ⟨p, rfl, hp13, hR13, hT13⟩
      have hgg : C.gc ≠ gr := by
        intro e
        obtain ⟨h1, h2⟩ := hL12.hh
        have h3 := hC12.hue
        rw [show (⟨C.gc, C.br, (f.1 : Int), l2⟩ : Cli).gc = C.gc from rfl, e, hL12.cg] at h3
        have := hueC_mod h2 id
        rw [← h3] at this
        omega
      have hcc13 : w13.cell? ⟨C.gc, 1, none⟩ = some (.map (some C.br)) := ((hC12.blk.below' hdr12).turns hT13 hgg).cell 1
      refine ⟨_, ⟨hcc13, trivial⟩, fun _ h => h, ?_⟩
      obtain ⟨hv4, hvo⟩ := rdReply_vals bs n2.2
      have hl2b := hb2l _ (getK_mem _ _ _ hx2)
      have hl2b : l2.length + k2 ≤ 4 * m + 4 := hl2b
      refine hL12d.put (C := ⟨C.gc, C.br, f.1, l2⟩) hx2 (by show l2.length ≤ 1000000; omega) hR13 hT13 hp13 hvo (by omega) n2.1 hnlt ?_
      intro w14 c14 hL14
      (repeat with_reducible first|refine z_p (by omega) ?_)
      have hk2' : (k2 : Int) - 1 = ((k2 - 1 : Nat) : Int) := by omega
      rw [hk2']
      refine hJ2 _ _ ⟨k2 - 1, _, c14, _, setK (n2.1 : Int) ⟨(rdReply bs n2.2).1.1, p, (rdReply bs n2.2).1.2⟩ l2, rfl, hL14, getK_setK_same, ?_, ?_, fun h => ?_⟩ (by show ((k2 - 1 : Nat) : Int).toNat < (k2 : Int).toNat; omega)
      · rw [absL_set]; exact hen
      · rw [absT_set, hab, setK_setK]; rfl
      · refine ⟨by omega, by rw [setK_len hx2]; exact hT2l, fun q hq => ?_⟩
        rcases setK_mem hq with rfl | hq
        · have := setK_len' (n2.1 : Int) (⟨(rdReply bs n2.2).1.1, p, (rdReply bs n2.2).1.2⟩ : Rp) l2
          show (setK (n2.1 : Int) (⟨(rdReply bs n2.2).1.1, p, (rdReply bs n2.2).1.2⟩ : Rp) l2).length + (k2 - 1) ≤ _
          omega
        · have := hb2l q hq; omega
    | false =>
      rw [rEnts_stop hgo2'] at hen
      (repeat with_reducible first|refine z_c ?_|refine z_p (by omega) ?_)
      have hk' : (k : Int) - 1 = ((k - 1 : Nat) : Int) := by omega
      rw [hk']
      subst hen
      refine hJ _ _ ⟨k - 1, m + 1, s2, c2, T2, rfl, hL2, ?_, fun h => ?_⟩ (by show ((k - 1 : Nat) : Int).toNat < (k : Int).toNat; omega)
      · rw [hab]; exact hres
      · obtain ⟨h1, h2, h3⟩ := hbd2 h
        exact ⟨by omega, h2, fun p hp => by have := h3 p hp; omega⟩
  | false =>
    rw [rClis_stop hgo] at hres
    subst hres
    have hb5 := hL.bel
    have c2 : w5.cell? ⟨gr, 2, none⟩ = some (.bool s.2) := hL.rdr.blk.cell 2
    (repeat with_reducible first|refine fd rd2 (by decide) ?_|refine ld one4 c2 ?_|refine z_a ?_|refine z_c ?_)
    cases hsb : s.2 with
    | true =>
      (repeat with_reducible first|refine z_b ?_|refine z_f ?_|refine z_k ?_)
      have hn := hbadL (.inl hsb)
      exact .refused hn hb5
    | false =>
    (repeat with_reducible first|refine z_d ?_)
    obtain ⟨hw, hok⟩ := hgood hsb
    have hsv := sv_of hs hw hok
    refine (Save_tab hL.tab hsv (hm.below hb5)).mono ?_
    rintro _ w6 ⟨rfl, hb6⟩
    have hL6 := hL.below hb6
    rw [lstT_of]
    by_cases hsame : saveT (lstOf (absT T)) = bs
    rotate_left
    · (repeat with_reducible first|refine z_d ?_)
      refine tl_neq_t hsame ?_
      (repeat with_reducible first|refine z_b ?_|refine z_l ?_)
      have hn := hbadL (.inr (.inl hsame))
      exact .refused hn hL6.bel
    (repeat with_reducible first|refine z_d ?_)
    refine tl_neq_f (fun h => h hsame) ?_
    (repeat with_reducible first|refine z_a ?_|refine z_c ?_|refine z_l ?_)
    obtain ⟨bm, ht6⟩ := hL6.tab
    have t0c : w6.cell? ⟨g, 0, none⟩ = some (.map (some bm)) := ht6.blk.cell 0
    (repeat with_reducible first|refine fd t0 (by decide) ?_|refine ld one58 t0c ?_)
    refine rng und58 ht6.map ?_
    intro w7 hmr7 hb7
    have hr6 : w6.heap.size < w7.heap.size := hmr7.ltr
    have hfin : ∀ {w' : World}, Below w6.heap.size w6 w' → Below w.heap.size w w' := fun hb => below_then hL6.bel hb
    have hwr : ∀ {id : Int} {C : Cli}, getK id T = some C → wrongC (absC C) → loadP bs = none := fun {id C} hg hc => hbadL (.inr (.inr ⟨(id, absC C), List.mem_map.2 ⟨(id, C), getK_mem _ _ _ hg, rfl⟩, hc⟩))
    have hndT : (T.map (·.1)).Nodup := by
      have := ht6.map.nodup
      rwa [List.map_map] at this
    -- what is left to look at
    refine LoopP.inv0n (fun n w' => ∃ todo : List Int, todo.length = n ∧ MapR w' bm w6.heap.size (T.map fun p => (p.1, Value.pointer (some ⟨p.2.gc, 0, none⟩))) todo ∧ Below w6.heap.size w6 w' ∧ ∀ p ∈ T, p.1 ∉ todo → ¬ wrongC (absC p.2)) (T.map (·.1)).length ⟨_, rfl, by rw [List.map_map] at hmr7; exact hmr7, hb7, fun p hp hn => absurd (List.mem_map.2 ⟨p, hp, rfl⟩) hn⟩ ?_
    rintro n w8 ⟨todo, rfl, hmr8, hb8, hchk⟩ J2 hJ2
    refine nxt hmr8 (fun e => ?_) ?_
    · subst e
      (repeat with_reducible first|refine z_c ?_|refine z_A ?_)
      have hno : ¬ wrongT (absT T) := by
        rintro ⟨p, hp, hc⟩
        obtain ⟨q, hq, rfl⟩ := List.mem_map.1 hp
        exact hchk q hq (by simp) hc
      have hy := hokL (by
        rintro (h | h | h)
        · have h : s.2 = true := h
          rw [hsb] at h; cases h
        · exact h hsame
        · exact hno h)
      refine ⟨fun h => (by rw [hy] at h; cases h), fun A hA => ?_, hfin hb8⟩
      rw [hy] at hA
      cases hA
      exact ⟨g, c, T, rfl, hL6.old, ⟨bm, ht6.below hb8⟩, rfl, hsv⟩
    · intro id u w9 hid hg9 hmr9 hT9 hent
      obtain ⟨C, hgC, rfl⟩ := ptr_getT hg9
      have hb9 : Below w6.heap.size w6 w9 := hb8.trans (hT9.below hb8.size fun k hk e => by omega)
      have hC9 := ((ht6.below hb9).el _ (getK_mem _ _ _ hgC)).2
      have hC9 : CliAt c (hueC hu id) w9 C := hC9
      have e0 : w9.cell? ⟨C.gc, 0, none⟩ = some (.int .i64 C.fl) := hC9.blk.cell 0
      have e1 : w9.cell? ⟨C.gc, 1, none⟩ = some (.map (some C.br)) := hC9.blk.cell 1
      have hlen : (absC C).2.length = C.l.length := by show (absL C.l).length = _; rw [absL, List.length_map]
      (repeat with_reducible first|refine z_b ?_|refine z_A ?_)
      refine lift hent ?_
      (repeat with_reducible first|refine fd k1 (by decide) ?_|refine ld one66 e1 ?_|refine z_a ?_|refine z_B ?_)
      refine lnm und66 hC9.map ?_
      rw [List.length_map]
      refine bi_eql_c (fun h1 => ?_) (fun h1 => ?_)
      · (repeat with_reducible first|refine z_b ?_|refine z_f ?_|refine z_g ?_|refine z_k ?_)
        exact .refused (hwr hgC (.inl (List.eq_nil_of_length_eq_zero (by omega)))) (hfin hb9)
      have hne0 : ¬ (absC C).2 = [] := fun e => by rw [e] at hlen; simp at hlen; omega
      (repeat with_reducible first|refine fd k0 (by decide) ?_|refine ld one3 e0 ?_|refine z_a ?_|refine z_d ?_)
      refine bi_gtr_c (fun h2 => ?_) (fun h2 => ?_)
      · (repeat with_reducible first|refine fd k1 (by decide) ?_|refine ld one66 e1 ?_|refine z_a ?_|refine z_d ?_)
        refine lnm und66 hC9.map ?_
        rw [List.length_map]
        (repeat with_reducible first|refine z_d ?_)
        refine bi_neq_c (fun h3 => ?_) (fun h3 => ?_)
        · (repeat with_reducible first|refine z_b ?_|refine z_d ?_|refine z_k ?_|refine z_l ?_)
          exact .refused (hwr hgC (.inr (.inl ⟨h2, by omega⟩))) (hfin hb9)
        have hful : ¬ (0 < (absC C).1 ∧ (absC C).2.length ≠ 4) := fun h => h.2 (by omega)
        (repeat with_reducible first|refine fd k1 (by decide) ?_|refine ld one66 e1 ?_|refine z_a ?_|refine z_c ?_|refine z_d ?_|refine z_k ?_|refine z_l ?_)
        refine rng und66 hC9.map ?_
        intro w10 hmr10 hb10
        have hmr9' := hmr9.below hb10
        have hr10 : w9.heap.size < w10.heap.size := hmr10.ltr
        refine LoopP.inv0n (fun n w' => ∃ todo2 : List Int, todo2.length = n ∧ MapR w' C.br w9.heap.size (C.l.map fun p => (p.1, p.2.val)) todo2 ∧ MapR w' bm w6.heap.size (T.map fun p => (p.1, Value.pointer (some ⟨p.2.gc, 0, none⟩))) (todo.filter fun j => decide (j ≠ id)) ∧ Below w9.heap.size w9 w' ∧ ∀ q ∈ C.l, q.1 ∉ todo2 → ¬ q.1 ≤ C.fl) (C.l.map (·.1)).length ⟨_, rfl, by rw [List.map_map] at hmr10; exact hmr10, hmr9', hb10, fun q hq hn => absurd (List.mem_map.2 ⟨q, hq, rfl⟩) hn⟩ ?_
        rintro n2 w11 ⟨todo2, rfl, hmr11, hmr11', hb11, hchk2⟩ J3 hJ3
        refine nxt hmr11 (fun e => ?_) ?_
        · subst e
          (repeat with_reducible first|refine z_c ?_|refine z_A ?_)
          refine hJ2 _ _ (filter_len_lt hid) ⟨_, rfl, hmr11', below_then hb9 hb11, fun p hp hn => ?_⟩
          by_cases hpi : p.1 = id
          · have hpC : p.2 = C := by
              have := getK_of_mem hndT (show (id, p.2) ∈ T by rw [← hpi]; exact hp)
              rw [hgC] at this
              exact (Option.some.inj this).symm
            rw [hpC]
            rintro (h | h | ⟨q, hq, h⟩)
            · exact hne0 h
            · exact hful h
            · obtain ⟨q0, hq0, rfl⟩ := absL_mem hq
              exact hchk2 q0 hq0 (by simp) h
          · exact hchk p hp fun h => hn (List.mem_filter.2 ⟨h, by simpa using hpi⟩)
        · intro no u2 w12 hno hg12 hmr12 hT12 hent2
          have hb12 : Below w9.heap.size w9 w12 := hb11.trans (hT12.below hb11.size fun k hk e => by omega)
          have f0 : w12.cell? ⟨C.gc, 0, none⟩ = some (.int .i64 C.fl) := (hC9.blk.below' hb12).cell 0
          obtain ⟨m2, hgm, rfl⟩ : ∃ m2, getK no C.l = some m2 ∧ u2 = m2.val := by
            rw [getK_map Rp.val] at hg12
            cases hg : getK no C.l with
            | none => rw [hg] at hg12; cases hg12
            | some m2 => rw [hg] at hg12; cases hg12; exact ⟨m2, rfl, rfl⟩
          (repeat with_reducible first|refine z_b ?_|refine z_A ?_)
          refine lift hent2 ?_
          (repeat with_reducible first|refine fd k0 (by decide) ?_|refine ld one3 f0 ?_|refine z_a ?_|refine z_A ?_)
          refine bi_leq_c (fun h5 => ?_) (fun h5 => ?_)
          · (repeat with_reducible first|refine z_b ?_)
            exact .refused (hwr hgC (.inr (.inr ⟨(no, m2.abs), List.mem_map.2 ⟨(no, m2), getK_mem _ _ _ hgm, rfl⟩, h5⟩))) (hfin (below_then hb9 hb12))
          · (repeat with_reducible first|refine z_c ?_)
            refine hJ3 _ _ (filter_len_lt hno) ⟨_, rfl, hmr12, hmr11'.turns hT12 (by have := ht6.map.lt; have := hb9.size; omega) (by have := hb9.size; have := hmr9.ltr; omega), hb12, fun q hq hn => ?_⟩
            by_cases hqi : q.1 = no
            · rw [hqi]; exact h5
            · exact hchk2 q hq fun h => hn (List.mem_filter.2 ⟨h, by simpa using hqi⟩)
      · have hful : ¬ (0 < (absC C).1 ∧ (absC C).2.length ≠ 4) := fun h => h2 h.1
        (repeat with_reducible first|refine fd k1 (by decide) ?_|refine ld one66 e1 ?_|refine z_a ?_|refine z_c ?_|refine z_d ?_|refine z_e ?_|refine z_l ?_)
        refine rng und66 hC9.map ?_
        intro w10 hmr10 hb10
        have hmr9' := hmr9.below hb10
        have hr10 : w9.heap.size < w10.heap.size := hmr10.ltr
        refine LoopP.inv0n (fun n w' => ∃ todo2 : List Int, todo2.length = n ∧ MapR w' C.br w9.heap.size (C.l.map fun p => (p.1, p.2.val)) todo2 ∧ MapR w' bm w6.heap.size (T.map fun p => (p.1, Value.pointer (some ⟨p.2.gc, 0, none⟩))) (todo.filter fun j => decide (j ≠ id)) ∧ Below w9.heap.size w9 w' ∧ ∀ q ∈ C.l, q.1 ∉ todo2 → ¬ q.1 ≤ C.fl) (C.l.map (·.1)).length ⟨_, rfl, by rw [List.map_map] at hmr10; exact hmr10, hmr9', hb10, fun q hq hn => absurd (List.mem_map.2 ⟨q, hq, rfl⟩) hn⟩ ?_
        rintro n2 w11 ⟨todo2, rfl, hmr11, hmr11', hb11, hchk2⟩ J3 hJ3
        refine nxt hmr11 (fun e => ?_) ?_
        · subst e
          (repeat with_reducible first|refine z_c ?_|refine z_A ?_)
          refine hJ2 _ _ (filter_len_lt hid) ⟨_, rfl, hmr11', below_then hb9 hb11, fun p hp hn => ?_⟩
          by_cases hpi : p.1 = id
          · have hpC : p.2 = C := by
              have := getK_of_mem hndT (show (id, p.2) ∈ T by rw [← hpi]; exact hp)
              rw [hgC] at this
              exact (Option.some.inj this).symm
            rw [hpC]
            rintro (h | h | ⟨q, hq, h⟩)
            · exact hne0 h
            · exact hful h
            · obtain ⟨q0, hq0, rfl⟩ := absL_mem hq
              exact hchk2 q0 hq0 (by simp) h
          · exact hchk p hp fun h => hn (List.mem_filter.2 ⟨h, by simpa using hpi⟩)
        · intro no u2 w12 hno hg12 hmr12 hT12 hent2
          have hb12 : Below w9.heap.size w9 w12 := hb11.trans (hT12.below hb11.size fun k hk e => by omega)
          have f0 : w12.cell? ⟨C.gc, 0, none⟩ = some (.int .i64 C.fl) := (hC9.blk.below' hb12).cell 0
          obtain ⟨m2, hgm, rfl⟩ : ∃ m2, getK no C.l = some m2 ∧ u2 = m2.val := by
            rw [getK_map Rp.val] at hg12
            cases hg : getK no C.l with
            | none => rw [hg] at hg12; cases hg12
            | some m2 => rw [hg] at hg12; cases hg12; exact ⟨m2, rfl, rfl⟩
          (repeat with_reducible first|refine z_b ?_|refine z_A ?_)
          refine lift hent2 ?_
          (repeat with_reducible first|refine fd k0 (by decide) ?_|refine ld one3 f0 ?_|refine z_a ?_|refine z_A ?_)
          refine bi_leq_c (fun h5 => ?_) (fun h5 => ?_)
          · (repeat with_reducible first|refine z_b ?_)
            exact .refused (hwr hgC (.inr (.inr ⟨(no, m2.abs), List.mem_map.2 ⟨(no, m2), getK_mem _ _ _ hgm, rfl⟩, h5⟩))) (hfin (below_then hb9 hb12))
          · (repeat with_reducible first|refine z_c ?_)
            refine hJ3 _ _ (filter_len_lt hno) ⟨_, rfl, hmr12, hmr11'.turns hT12 (by have := ht6.map.lt; have := hb9.size; omega) (by have := hb9.size; have := hmr9.ltr; omega), hb12, fun q hq hn => ?_⟩
            by_cases hqi : q.1 = no
            · rw [hqi]; exact h5
            · exact hchk2 q hq fun h => hn (List.mem_filter.2 ⟨h, by simpa using hqi⟩)
end Go.Proofs.YtmnaggdhkggjhaaGreatDoor.E
