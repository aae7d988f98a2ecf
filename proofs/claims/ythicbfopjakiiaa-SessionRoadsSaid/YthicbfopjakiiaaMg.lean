import Derived.Test.YthicbfopjakiiaaMf
namespace Go.Proofs.Ythicbfopjakiiaa.E
open Go Go.RowKit
set_option linter.unusedSimpArgs false
set_option linter.unusedVariables false

/-- A road in memory, its parts one by one. -/
structure GV where
  r : Nat
  gn : Nat
  g : Bool → Nat
  sv : Bool → Value
  tv : Bool → Value
  mrk : Bool → Nat
  sn : Bool → Nat
  wt : Bool → List ByteArray
  S : Bool → List ByteArray
  T : Bool → List ByteArray
  cs : Array Value
  last : Nat
  l : List (Int × Msg)
def GV.objs (R : GV) : List Thg := [blkO 1 R.r 90 R.cs (by decide), endO 2 (R.g false) (R.mrk false) (R.sn false) (R.wt false) (by decide), endO 3 (R.g true) (R.mrk true) (R.sn true) (R.wt true) (by decide),
  rowO 4 9 (R.sv false) (txs (R.S false)) (by decide), rowO 5 9 (R.sv true) (txs (R.S true)) (by decide), rowO 6 9 (R.tv false) (txs (R.T false)) (by decide), rowO 7 9 (R.tv true) (txs (R.T true)) (by decide), netO 8 R.gn R.last R.l (by decide)]
def RoadV.gv (R : RoadV) : GV := ⟨R.r, R.gn, R.g, R.sv, R.tv, R.s.mrk, fun i => (R.s.S i).length, R.s.wt, R.s.S, R.s.T, R.cells, R.last, R.l⟩
/-- A road and objects beside it, of colours above its own. -/
structure GM (w0 w : World) (R : GV) (X : List Thg) : Prop where
  mem : Mem w0 w (R.objs ++ X)
  hi : ∀ x ∈ X, 9 < x.hu
open Roads (up)
section
variable {w0 w : World} {R : GV} {X : List Thg}
theorem GM.below {w' : World} (h : GM w0 w R X) (hb : Below w.heap.size w w') : GM w0 w' R X := ⟨h.mem.below hb, h.hi⟩
theorem GM.bel (h : GM w0 w R X) : Below w0.heap.size w0 w := h.mem.bel
theorem GM.road {R : RoadV} (h : GM w0 w R.gv X) : RoadM w0 w R := h.mem.sub fun x hx => List.mem_append.2 (.inl hx)
theorem RoadM.gm {R : RoadV} (h : RoadM w0 w R) : GM w0 w R.gv [] := ⟨by rw [List.append_nil]; exact h, by simp⟩
theorem hues {A B : List Thg} {n : Nat} (h : ∀ x ∈ X, 9 < x.hu) (hn : n ≤ 9) (ns : List Nat) (e : (A ++ B).map (·.hu) = ns) (hd : ∀ k ∈ ns, k ≠ n) : ∀ x ∈ A ++ (B ++ X), x.hu ≠ n := fun x hx => by
  rw [← List.append_assoc] at hx
  rcases List.mem_append.1 hx with h1 | h1
  · exact hd _ (by rw [← e]; exact List.mem_map.2 ⟨x, h1, rfl⟩)
  · have := h x h1; omega
theorem col_own {c : Nat → Nat} {n hu : Nat} {v v' : Value} (h : InC c hu v) (hlt : ∀ b, v.ownBlock = some b → b < n) (hv : v'.ownBlock = v.ownBlock ∨ v'.ownBlock = some n) : InC (col c n hu) hu v' := fun b hb => by
  rcases hv with e | e
  · rw [e] at hb
    rw [col_lt _ _ _ _ (hlt b hb)]; exact h b hb
  · rw [e] at hb; cases hb
    exact col_ge _ _ _ (Nat.le_refl _)
/-- A row of the call's own among objects. -/
theorem Mem.rowAt {A B : List Thg} {hu : Nat} {e : TypeId} {v : Value} {xs : List Value} {hp : 0 < hu} (h : Mem w0 w (A ++ rowO hu e v xs hp :: B)) (hd : ∀ x ∈ A ++ B, x.hu ≠ hu) :
    Own e w v xs ∧ ∀ v' xs' w', Own e w' v' xs' → (v'.ownBlock = v.ownBlock ∨ v'.ownBlock = some w.heap.size) → Turns (fun j => v.ownBlock = some j) w w' → Mem w0 w' (A ++ rowO hu e v' xs' hp :: B) := by
  obtain ⟨c, h1, back⟩ := h.call hd
  refine ⟨h1.2, fun v' xs' w' ho hv hT => back (rowO hu e v' xs' hp) w' ⟨col c w.heap.size hu, col_lt _ _ _, ⟨col_own h1.1 (fun b hb => ownsRow_lt h1.2 hb) hv, ho⟩, hT.mono fun k hk e => h1.1 k e⟩⟩
/-- A block among objects. -/
theorem Mem.blkAt {A B : List Thg} {hu g : Nat} {t : TypeId} {cs : Array Value} {hp : 0 < hu} (h : Mem w0 w (A ++ blkO hu g t cs hp :: B)) (hd : ∀ x ∈ A ++ B, x.hu ≠ hu) :
    Blk w g t cs ∧ ∀ cs' w', Blk w' g t cs' → Turns (fun j => j = g) w w' → Mem w0 w' (A ++ blkO hu g t cs' hp :: B) := by
  obtain ⟨c, h1, back⟩ := h.call hd
  exact ⟨h1.2, fun cs' w' hb hT => back (blkO hu g t cs' hp) w' ⟨c, fun _ _ => rfl, ⟨h1.1, hb⟩, hT.mono fun k hk e => by rw [e]; exact h1.1⟩⟩
theorem GM.blk (h : GM w0 w R X) : Blk w R.r 90 R.cs ∧ ∀ cs' w', Blk w' R.r 90 cs' → Turns (fun j => j = R.r) w w' → GM w0 w' { R with cs := cs' } X := by
  obtain ⟨h1, back⟩ := Mem.blkAt (A := []) (B := R.objs.drop 1 ++ X) h.mem (hues (A := []) h.hi (by decide) [2, 3, 4, 5, 6, 7, 8] rfl (by decide))
  exact ⟨h1, fun cs' w' h2 h3 => ⟨back cs' w' h2 h3, h.hi⟩⟩
theorem GM.net (h : GM w0 w R X) : ∃ cn, NetC cn w R.gn R.last R.l ∧ ∀ last' l' w', LeftN cn w R.gn last' l' w' → GM w0 w' { R with last := last', l := l' } X := by
  obtain ⟨cn, h1, back⟩ := Mem.net (A := R.objs.take 7) (B := [] ++ X) (hu := 8) (hp := by decide) h.mem (hues (B := []) h.hi (by decide) [1, 2, 3, 4, 5, 6, 7] rfl (by decide))
  exact ⟨cn, h1, fun last' l' w' h2 => ⟨back last' l' w' h2, h.hi⟩⟩
theorem GM.end_ (h : GM w0 w R X) (i : Bool) : ∃ F, EndF F w (R.g i) (R.mrk i) (R.sn i) (R.wt i) ∧ ∀ mk' sn' wt' w', EndF (Ext F w.heap.size) w' (R.g i) mk' sn' wt' → Turns F w w' → GM w0 w' { R with mrk := up R.mrk i mk', sn := up R.sn i sn', wt := up R.wt i wt' } X := by
  cases i with
  | false =>
    obtain ⟨F, h1, back⟩ := Mem.end_ (A := R.objs.take 1) (B := R.objs.drop 2 ++ X) (hu := 2) (hp := by decide) h.mem (hues h.hi (by decide) [1, 3, 4, 5, 6, 7, 8] rfl (by decide))
    exact ⟨F, h1, fun mk' sn' wt' w' h2 h3 => ⟨back mk' sn' wt' w' h2 h3, h.hi⟩⟩
  | true =>
    obtain ⟨F, h1, back⟩ := Mem.end_ (A := R.objs.take 2) (B := R.objs.drop 3 ++ X) (hu := 3) (hp := by decide) h.mem (hues h.hi (by decide) [1, 2, 4, 5, 6, 7, 8] rfl (by decide))
    exact ⟨F, h1, fun mk' sn' wt' w' h2 h3 => ⟨back mk' sn' wt' w' h2 h3, h.hi⟩⟩
theorem GM.srow (h : GM w0 w R X) (i : Bool) : Own 9 w (R.sv i) (txs (R.S i)) ∧ ∀ v' S' w', Own 9 w' v' (txs S') → (v'.ownBlock = (R.sv i).ownBlock ∨ v'.ownBlock = some w.heap.size) → Turns (fun j => (R.sv i).ownBlock = some j) w w' → GM w0 w' { R with sv := up R.sv i v', S := up R.S i S' } X := by
  cases i with
  | false =>
    obtain ⟨h1, back⟩ := Mem.rowAt (A := R.objs.take 3) (B := R.objs.drop 4 ++ X) (hu := 4) (hp := by decide) h.mem (hues h.hi (by decide) [1, 2, 3, 5, 6, 7, 8] rfl (by decide))
    exact ⟨h1, fun v' S' w' h2 h3 h4 => ⟨back v' (txs S') w' h2 h3 h4, h.hi⟩⟩
  | true =>
    obtain ⟨h1, back⟩ := Mem.rowAt (A := R.objs.take 4) (B := R.objs.drop 5 ++ X) (hu := 5) (hp := by decide) h.mem (hues h.hi (by decide) [1, 2, 3, 4, 6, 7, 8] rfl (by decide))
    exact ⟨h1, fun v' S' w' h2 h3 h4 => ⟨back v' (txs S') w' h2 h3 h4, h.hi⟩⟩
theorem GM.trow (h : GM w0 w R X) (i : Bool) : Own 9 w (R.tv i) (txs (R.T i)) ∧ ∀ v' S' w', Own 9 w' v' (txs S') → (v'.ownBlock = (R.tv i).ownBlock ∨ v'.ownBlock = some w.heap.size) → Turns (fun j => (R.tv i).ownBlock = some j) w w' → GM w0 w' { R with tv := up R.tv i v', T := up R.T i S' } X := by
  cases i with
  | false =>
    obtain ⟨h1, back⟩ := Mem.rowAt (A := R.objs.take 5) (B := R.objs.drop 6 ++ X) (hu := 6) (hp := by decide) h.mem (hues h.hi (by decide) [1, 2, 3, 4, 5, 7, 8] rfl (by decide))
    exact ⟨h1, fun v' S' w' h2 h3 h4 => ⟨back v' (txs S') w' h2 h3 h4, h.hi⟩⟩
  | true =>
    obtain ⟨h1, back⟩ := Mem.rowAt (A := R.objs.take 6) (B := R.objs.drop 7 ++ X) (hu := 7) (hp := by decide) h.mem (hues h.hi (by decide) [1, 2, 3, 4, 5, 6, 8] rfl (by decide))
    exact ⟨h1, fun v' S' w' h2 h3 h4 => ⟨back v' (txs S') w' h2 h3 h4, h.hi⟩⟩
/-- An end that was made anew takes an end's place. -/
theorem GM.newEnd (h : GM w0 w R X) (i : Bool) {g' mk' sn' : Nat} {wt' : List ByteArray} {w' : World} (hE : EndAt w.heap.size w' g' mk' sn' wt') (hb : Below w.heap.size w w') : GM w0 w' { R with g := up R.g i g', mrk := up R.mrk i mk', sn := up R.sn i sn', wt := up R.wt i wt' } X := by
  obtain ⟨c, back⟩ := h.mem.make
  cases i with
  | false =>
    refine ⟨(back (endO 2 g' mk' sn' wt' (by decide)) w' ⟨col c w.heap.size 2, col_lt _ _ _, (EndF.of hE).mono fun k hk => col_ge _ _ _ hk, hb⟩).sub fun x hx => ?_, h.hi⟩
    rcases List.mem_append.1 hx with hx | hx
    · simp only [GV.objs, up, Bool.true_eq_false, if_false, if_true, List.mem_cons, List.not_mem_nil, or_false] at hx
      simp only [GV.objs, List.mem_append, List.mem_cons, List.not_mem_nil, or_false]
      rcases hx with e | e | e | e | e | e | e | e <;> simp [e]
    · simp [hx]
  | true =>
    refine ⟨(back (endO 3 g' mk' sn' wt' (by decide)) w' ⟨col c w.heap.size 3, col_lt _ _ _, (EndF.of hE).mono fun k hk => col_ge _ _ _ hk, hb⟩).sub fun x hx => ?_, h.hi⟩
    rcases List.mem_append.1 hx with hx | hx
    · simp only [GV.objs, up, Bool.false_eq_true, if_false, if_true, List.mem_cons, List.not_mem_nil, or_false] at hx
      simp only [GV.objs, List.mem_append, List.mem_cons, List.not_mem_nil, or_false]
      rcases hx with e | e | e | e | e | e | e | e <;> simp [e]
    · simp [hx]
/-- A row made anew beside it. -/
theorem GM.newRow (h : GM w0 w R []) {e : TypeId} {v : Value} {xs : List Value} {w' : World} (ho : Own e w' v xs) (hf : Fresh w.heap.size v) (hb : Below w.heap.size w w') : GM w0 w' R [rowO 10 e v xs (by decide)] := by
  obtain ⟨c, back⟩ := h.mem.make
  have := back (rowO 10 e v xs (by decide)) w' ⟨col c w.heap.size 10, col_lt _ _ _, ⟨InC.fresh hf, ho⟩, hb⟩
  exact ⟨by rw [List.append_nil] at this; exact this, by simp [rowO]⟩
theorem GM.theRow {e : TypeId} {v : Value} {xs : List Value} (h : GM w0 w R [rowO 10 e v xs (by decide)]) : Own e w v xs := by
  obtain ⟨c, hc⟩ := h.mem.look (o := rowO 10 e v xs (by decide)) (by simp)
  exact hc.2
end
/-- Items to post, in memory. -/
def itemsO (v : Value) (n : Nat) (xs : List Value) : Thg where
  hu := 10
  ok := fun c w => InC c 10 v ∧ w.ownsRow 0 99 2 v n xs
  pos := by decide
  turns := fun h hT hG => ⟨h.1, ownsRow_turns h.2 hT fun k hk e => hG k e (h.1 k hk)⟩
  re := fun h hc => ⟨h.1.re (fun b hb => ownsRow_lt h.2 hb) hc, h.2⟩
section
variable {w0 w : World} {R : GV} {X : List Thg}
theorem GM.newItems (h : GM w0 w R []) {n : Nat} {v : Value} {xs : List Value} {w' : World} (ho : w'.ownsRow 0 99 2 v n xs) (hf : Fresh w.heap.size v) (hb : Below w.heap.size w w') : GM w0 w' R [itemsO v n xs] := by
  obtain ⟨c, back⟩ := h.mem.make
  have := back (itemsO v n xs) w' ⟨col c w.heap.size 10, col_lt _ _ _, ⟨InC.fresh hf, ho⟩, hb⟩
  exact ⟨by rw [List.append_nil] at this; exact this, by simp [itemsO]⟩
theorem GM.theItems {n : Nat} {v : Value} {xs : List Value} (h : GM w0 w R [itemsO v n xs]) : w.ownsRow 0 99 2 v n xs := by
  obtain ⟨c, hc⟩ := h.mem.look (o := itemsO v n xs) (by simp)
  exact hc.2
end
end Go.Proofs.Ythicbfopjakiiaa.E
namespace Go.Proofs.Ythicbfopjakiiaa.E
open Go Go.RowKit
set_option linter.unusedSimpArgs false
set_option linter.unusedVariables false

def GV.more (R : GV) (m : Msg) : GV := { R with last := R.last + 1, l := R.l ++ [(((R.last + 1 : Nat) : Int), m)] }
theorem sendG {w0 w : World} {R : GV} {X : List Thg} (hM : GM w0 w R X) (k to a : Nat) (body : ByteArray) (hk : k = 1 ∨ k = 2) (ht : to ≤ 1) (ha : a ≤ 1099511627776) (hb : body.size ≤ 100) (hlast : R.last ≤ 1000000000) (hl : R.l.length < 4096) :
    CallP Try.prog 30 #[ptr R.gn, .agg ((letR k to a body).cells (.slice none 0 0) (.slice none 0 0))] (fun r w' => ∃ p q, GM w0 w' (R.more ⟨letR k to a body, p, q, [], []⟩) X) w := by
  obtain ⟨cn, hN, back⟩ := hM.net
  refine (Send_net cn w R.gn R.last R.l (letR k to a body) _ _ [] [] hN hlast (pnil w) (inil w) (.inl rfl) (.inl rfl)).mono ?_
  intro r w' hr
  rw [if_neg (by rw [packErr_R k to a body (by omega) (by omega) (by omega) hb]; simp)] at hr
  unfold Added at hr
  rw [if_neg (by omega)] at hr
  obtain ⟨_, p, q, hL⟩ := hr
  exact ⟨p, q, back _ _ _ hL⟩
abbrev RoadV.ls (R : RoadV) : List (Roads.Lt ByteArray) := R.l.map fun x => ltOf x.2
theorem RoadOk.more {R : RoadV} (h : RoadOk R) {m : Msg} (hm : IsR m) (hok : Roads.okL R.s (ltOf m)) : RoadOk (R.more m) := by
  refine ⟨⟨h.good.dir, fun x hx => ?_⟩, fun x hx => ?_, ?_, fun x hx => ?_, h.few, h.short⟩
  · simp only [RoadV.more, List.map_append, List.map_cons, List.map_nil, List.mem_append, List.mem_cons, List.not_mem_nil, or_false] at hx
    rcases hx with hx | rfl
    · exact h.good.ok x hx
    · exact hok
  · simp only [RoadV.more, List.mem_append, List.mem_cons, List.not_mem_nil, or_false] at hx
    rcases hx with hx | rfl
    · exact h.isR x hx
    · exact hm
  · simp only [RoadV.more, List.map_append, List.map_cons, List.map_nil]
    rw [List.pairwise_append]
    refine ⟨h.asc, by simp, fun a ha b hb => ?_⟩
    simp only [List.mem_cons, List.not_mem_nil, or_false] at hb
    subst hb
    obtain ⟨x, hx, rfl⟩ := List.mem_map.1 ha
    have := h.below x hx
    omega
  · simp only [RoadV.more, List.mem_append, List.mem_cons, List.not_mem_nil, or_false] at hx ⊢
    rcases hx with hx | rfl
    · have := h.below x hx; omega
    · simp only; omega
theorem bI_dec (i : Bool) : decide (((bI i : Nat) : Int) = 1) = i := by cases i <;> rfl
theorem bI_le (i : Bool) : bI i ≤ 1 := by cases i <;> decide
theorem bI_lt (i : Bool) : bI i < 2 := by cases i <;> decide
theorem bI_not (i : Bool) : (1 : Int) - ((bI i : Nat) : Int) = ((bI (!i) : Nat) : Int) := by cases i <;> rfl
theorem ltOf_body (to : Bool) (k : Nat) (b : ByteArray) (p q : Value) : ltOf ⟨letR ((1 : Nat) : Int) (bI to : Nat) k b, p, q, [], []⟩ = .body to k b := by
  unfold ltOf letR
  simp only
  rw [if_neg (by omega), bI_dec, Int.toNat_natCast]
theorem ltOf_ack (to : Bool) (k : Nat) (p q : Value) : ltOf ⟨letR ((2 : Nat) : Int) (bI to : Nat) k ⟨#[]⟩, p, q, [], []⟩ = .ack to k := by
  unfold ltOf letR
  simp only
  rw [if_pos (by omega), bI_dec, Int.toNat_natCast]
theorem isR_of {k to a : Nat} {b : ByteArray} (p q : Value) (hk : k = 1 ∨ k = 2) (ht : to ≤ 1) (ha : a ≤ 1099511627776) : IsR ⟨letR k to a b, p, q, [], []⟩ := ⟨⟨k, to, a, b, rfl, hk, ht, ha⟩, rfl, rfl⟩
theorem RoadV.cg (R : RoadV) (i : Bool) : R.cells[0 + bI i]? = some (ptr (R.g i)) := by cases i <;> rfl
theorem RoadV.cs (R : RoadV) (i : Bool) : R.cells[2 + bI i]? = some (R.sv i) := by cases i <;> rfl
theorem RoadV.ct (R : RoadV) (i : Bool) : R.cells[4 + bI i]? = some (R.tv i) := by cases i <;> rfl
theorem RoadV.cn (R : RoadV) : R.cells[6]? = some (ptr R.gn) := rfl
theorem posts_len (s : Roads.Rs ByteArray) (i : Bool) : (Roads.posts s i).length = (s.wt i).length := by simp [Roads.posts]
theorem posts_at (s : Roads.Rs ByteArray) (i : Bool) (j : Nat) (hj : j < (s.wt i).length) : (Roads.posts s i)[j]? = some (.body (!i) ((s.S i).length - (s.wt i).length + 1 + j) (s.wt i)[j]) := by
  simp [Roads.posts, hj]
theorem RoadOk.wt_le {R : RoadV} (h : RoadOk R) (i : Bool) : (R.s.wt i).length ≤ 200 := by have := (h.good.dir i).lw; have := h.few i; omega
theorem RoadOk.mrk_le {R : RoadV} (h : RoadOk R) (i : Bool) : R.s.mrk i ≤ 200 := by
  have h1 := (h.good.dir (!i)).hm
  rw [Bool.not_not] at h1
  have := h.few (!i); omega
theorem RoadOk.wt_short {R : RoadV} (h : RoadOk R) (i : Bool) : ∀ b ∈ R.s.wt i, b.size ≤ 100 := fun b hb => h.short i b (by
  rw [(h.good.dir i).hw] at hb; exact List.mem_of_mem_drop hb)
/-- What a call leaves that sent letters: all else as it was. -/
structure Sent (R R' : RoadV) (ms : List (Roads.Lt ByteArray)) : Prop where
  r : R'.r = R.r
  gn : R'.gn = R.gn
  s : R'.s = R.s
  ls : R'.ls = R.ls ++ ms
  last : R'.last = R.last + ms.length
theorem Sent.len {R R' : RoadV} {ms : List (Roads.Lt ByteArray)} (h : Sent R R' ms) : R'.l.length = R.l.length + ms.length := by
  have := congrArg List.length h.ls
  simpa [RoadV.ls] using this
theorem Sent.trans {R R' R'' : RoadV} {ms ns : List (Roads.Lt ByteArray)} (h : Sent R R' ms) (k : Sent R' R'' ns) : Sent R R'' (ms ++ ns) :=
  ⟨k.r.trans h.r, k.gn.trans h.gn, k.s.trans h.s, by rw [k.ls, h.ls, List.append_assoc], by rw [k.last, h.last, List.length_append]; omega⟩
theorem post45 {w0 w : World} {R : RoadV} (hM : RoadM w0 w R) (hk : RoadOk R) (i : Bool) (n : Int) (hlast : R.last ≤ 100000000) (hl : R.l.length + min n.toNat (R.s.wt i).length < 4096) :
    CallP Try.prog 45 #[ptr R.r, .int .i64 (bI i : Nat), .int .i64 n] (fun r w' => ∃ R', RoadM w0 w' R' ∧ RoadOk R' ∧ Sent R R' ((Roads.posts R.s i).take n.toNat)) w := by
  refine ⟨S45.calls _ _ _ _ _ ?_⟩
  unfold S45
  have hblk := hM.blk
  have c0 : w.cell? ⟨R.r, 0 + bI i, none⟩ = some (ptr (R.g i)) := by rw [hblk.cell, R.cg]
  (repeat with_reducible first | refine fd ro0 (by decide) ?_|refine z_a ?_|refine z_b ?_|refine z_c ?_|refine z_d ?_|refine z_e ?_|refine z_f ?_|refine z_g ?_|refine z_h ?_|refine z_i ?_|refine z_j ?_|refine z_k ?_|refine z_l ?_|refine z_m (by omega) ?_|refine z_n (by omega) ?_|refine z_o (by omega) ?_|refine z_p (by omega) ?_|refine z_q (by omega) ?_|refine z_r (by omega) ?_|refine z_s (by omega) ?_|refine z_t (by omega) ?_|refine z_u (by omega) ?_|refine z_v (by omega) ?_|refine z_w (by omega) ?_|refine z_x (by omega) ?_|refine z_y (by omega) ?_|refine z_z (by omega) ?_|refine z_A ?_|refine z_B ?_|refine z_C ?_|refine z_D ?_|refine z_E ?_|refine z_F ?_|refine z_G ?_|refine z_H ?_|refine z_I ?_|refine z_J ?_|refine z_K (by omega) (by decide) ?_|refine z_L (by omega) (by decide) ?_|refine z_M (by omega) ?_|refine z_N (by omega) ?_|refine z_O (by omega) ?_|refine z_P ?_|refine z_Q ?_|refine z_R ?_|refine z_S ?_|refine z_T ?_|refine z_U (by decide) ?_|refine z_V (by decide) ?_)
  refine ixO und87 sz23' (bI i) (bI_lt i) ?_
  (repeat with_reducible first | refine ld one23' c0 ?_|refine z_a ?_|refine z_b ?_|refine z_c ?_|refine z_d ?_|refine z_e ?_|refine z_f ?_|refine z_g ?_|refine z_h ?_|refine z_i ?_|refine z_j ?_|refine z_k ?_|refine z_l ?_|refine z_m (by omega) ?_|refine z_n (by omega) ?_|refine z_o (by omega) ?_|refine z_p (by omega) ?_|refine z_q (by omega) ?_|refine z_r (by omega) ?_|refine z_s (by omega) ?_|refine z_t (by omega) ?_|refine z_u (by omega) ?_|refine z_v (by omega) ?_|refine z_w (by omega) ?_|refine z_x (by omega) ?_|refine z_y (by omega) ?_|refine z_z (by omega) ?_|refine z_A ?_|refine z_B ?_|refine z_C ?_|refine z_D ?_|refine z_E ?_|refine z_F ?_|refine z_G ?_|refine z_H ?_|refine z_I ?_|refine z_J ?_|refine z_K (by omega) (by decide) ?_|refine z_L (by omega) (by decide) ?_|refine z_M (by omega) ?_|refine z_N (by omega) ?_|refine z_O (by omega) ?_|refine z_P ?_|refine z_Q ?_|refine z_R ?_|refine z_S ?_|refine z_T ?_|refine z_U (by decide) ?_|refine z_V (by decide) ?_)
  obtain ⟨F, hE, -⟩ := (RoadM.gm hM).end_ i
  have hlw := (hk.good.dir i).lw
  have hwt := hk.wt_le i
  have hfew := hk.few i
  refine (Post_spec 0 w (R.g i) (R.s.mrk i) (R.s.S i).length (R.s.wt i) n hE.at hlw (by omega) (by omega)).mono ?_
  rintro v w1 ⟨hv, hfv, hb1⟩
  have hG1 := (RoadM.gm hM).newItems hv hfv hb1
  have hcnt : ((R.s.wt i).take n.toNat).length = min n.toNat (R.s.wt i).length := by simp
  have hform : ∃ A' c', v = .slice A' (min n.toNat (R.s.wt i).length) c' ∧ (0 < min n.toNat (R.s.wt i).length → ∃ g, A' = some ⟨g, 0, none⟩) := by
    rcases hv.2 with ⟨rfl, h⟩ | ⟨g, cap, cur, rfl, _⟩
    · exact ⟨none, 0, by rw [h], fun h' => by omega⟩
    · exact ⟨_, _, rfl, fun _ => ⟨g, rfl⟩⟩
  obtain ⟨A', c', hvv, hA'⟩ := hform
  obtain ⟨N, hN⟩ : ∃ N, min n.toNat (R.s.wt i).length = N := ⟨_, rfl⟩
  rw [hN] at hcnt hvv hA' hG1 hv hl
  have hplen : ((Roads.posts R.s i).take n.toNat).length = N := by rw [List.length_take, posts_len]; exact hN
  clear hv hfv
  refine LoopP.inv1 (fun iv w' => ∃ k : Nat, k ≤ N ∧ iv = .int .i64 k ∧ ∃ R' : RoadV, GM w0 w' R'.gv [itemsO v N (items ((R.s.S i).length - (R.s.wt i).length + 1) ((R.s.wt i).take n.toNat))] ∧ RoadOk R' ∧ Sent R R' (((Roads.posts R.s i).take n.toNat).take k)) (fun iv _ => N - (intOf iv).toNat)
    ⟨0, by omega, rfl, R, hG1, hk, ⟨rfl, rfl, rfl, by simp, by simp⟩⟩ ?_
  clear hG1 c0 hblk hM hb1 hE
  rintro _ w2 ⟨k, hkN, rfl, R', hG, hk', hS⟩ J hJ
  dsimp only [List.headD_cons, List.tail_cons]
  rw [hvv]
  refine ln und44 ?_
  refine bi_lss_c (fun h => ?_) (fun h => ?_)
  · have hkn : k < N := by omega
    obtain ⟨g, rfl⟩ := hA' (by omega)
    have hkw : k < (R.s.wt i).length := by omega
    have hkt : k < ((R.s.wt i).take n.toNat).length := by omega
    obtain ⟨e1, e2⟩ := items_get ((R.s.wt i).take n.toNat) ((R.s.S i).length - (R.s.wt i).length + 1) k hkt
    have hI := hG.theItems
    have n1 := hI.cells (g := g) (by rw [hvv]; rfl) _ _ e1
    have n2 := hI.cells (g := g) (by rw [hvv]; rfl) _ _ e2
    rw [add0, Nat.zero_add] at n1 n2
    rw [List.getElem_take] at n2
    have hdr : Below w2.heap.size w2 w2.drew := (Below.refl _ _).drew
    have m1 : ∀ w', Below w2.heap.size w2 w' → w'.cell? ⟨g, k * 2 + 0, none⟩ = some (.int .i64 (((R.s.S i).length - (R.s.wt i).length + 1 + k : Nat) : Int)) := fun w' h => by
      rw [show k * 2 + 0 = 2 * k from by omega]
      exact (h.cell (World.block_lt_of_cell? _ _ n1)).trans n1
    have m2 : ∀ w', Below w2.heap.size w2 w' → w'.cell? ⟨g, k * 2 + 1, none⟩ = some (.string (R.s.wt i)[k]) := fun w' h => by
      rw [show k * 2 + 1 = 2 * k + 1 from by omega]
      exact (h.cell (World.block_lt_of_cell? _ _ n2)).trans n2
    have hblk := hG.blk.1
    have kc : ∀ w', Below w2.heap.size w2 w' → w'.cell? ⟨R.r, 6, none⟩ = some (ptr R.gn) := fun w' h => by rw [← hS.r, ← hS.gn]; exact (hblk.below' h).cell 6
    have hGd := hG.below hdr
    (repeat with_reducible first|refine z_a ?_|refine z_b ?_|refine z_c ?_|refine z_d ?_|refine z_e ?_|refine z_f ?_|refine z_g ?_|refine z_h ?_|refine z_i ?_|refine z_j ?_|refine z_k ?_|refine z_l ?_|refine z_m (by omega) ?_|refine z_n (by omega) ?_|refine z_o (by omega) ?_|refine z_p (by omega) ?_|refine z_q (by omega) ?_|refine z_r (by omega) ?_|refine z_s (by omega) ?_|refine z_t (by omega) ?_|refine z_u (by omega) ?_|refine z_v (by omega) ?_|refine z_w (by omega) ?_|refine z_x (by omega) ?_|refine z_y (by omega) ?_|refine z_z (by omega) ?_|refine z_A ?_|refine z_B ?_|refine z_C ?_|refine z_D ?_|refine z_E ?_|refine z_F ?_|refine z_G ?_|refine z_H ?_|refine z_I ?_|refine z_J ?_|refine z_K (by omega) (by decide) ?_|refine z_L (by omega) (by decide) ?_|refine z_M (by omega) ?_|refine z_N (by omega) ?_|refine z_O (by omega) ?_|refine z_P ?_|refine z_Q ?_|refine z_R ?_|refine z_S ?_|refine z_T ?_|refine z_U (by decide) ?_|refine z_V (by decide) ?_)
    refine draw (Below w2.heap.size w2) hdr ?_
    generalize w2.drew = wd at *
    (repeat with_reducible first | refine yfd ro3 (by decide) ?_|refine z_W ?_|refine z_a ?_|refine z_b ?_|refine z_c ?_|refine z_d ?_|refine z_e ?_|refine z_f ?_|refine z_g ?_|refine z_h ?_|refine z_i ?_|refine z_j ?_|refine z_k ?_|refine z_l ?_|refine z_X (by omega) ?_|refine z_Y (by omega) ?_|refine z_Z (by omega) ?_|refine z_a1 (by omega) ?_|refine z_b1 (by omega) ?_|refine z_c1 (by omega) ?_|refine z_d1 (by omega) ?_|refine z_e1 (by omega) ?_|refine z_f1 (by omega) ?_|refine z_g1 (by omega) ?_|refine z_h1 (by omega) ?_|refine z_i1 (by omega) ?_|refine z_j1 (by omega) ?_|refine z_k1 (by omega) ?_|refine z_l1 ?_|refine z_m1 ?_|refine z_n1 ?_|refine z_o1 ?_|refine z_p1 ?_|refine z_q1 ?_|refine z_r1 ?_|refine z_s1 ?_|refine z_t1 ?_|refine z_u1 ?_|refine z_v1 (by omega) (by decide) ?_|refine z_w1 (by omega) (by decide) ?_|refine z_x1 (by omega) ?_|refine z_y1 (by omega) ?_|refine z_z1 (by omega) ?_|refine z_A1 ?_|refine z_B1 ?_|refine z_C1 ?_|refine z_D1 ?_|refine z_E1 ?_|refine z_F1 (by decide) ?_|refine z_G1 (by decide) ?_)
    refine yl1 one52' kc ?_
    refine yi_sub64 (by have := bI_le i; omega) ?_
    rw [bI_not]
    refine yixS und44 sz99 k hkn ?_
    refine yfdS i0' (by decide) ?_
    refine yl1 one3 m1 ?_
    refine yixS und44 sz99 k hkn ?_
    refine yfdS i1' (by decide) ?_
    refine yl1 one9 m2 ?_
    refine act ?_
    refine bd (cells := (letR 1 (bI (!i) : Nat) ((R.s.S i).length - (R.s.wt i).length + 1 + k : Nat) (R.s.wt i)[k]).cells (.slice none 0 0) (.slice none 0 0)) (by kernel_rfl) ?_
    refine ⟨_, hdr, fun _ h => h, ?_⟩
    have hbs := hk.wt_short i _ (List.getElem_mem hkw)
    have hlen := hS.len
    have hll : (((Roads.posts R.s i).take n.toNat).take k).length = k := by rw [List.length_take]; omega
    rw [hll] at hlen
    have hla := hS.last
    rw [hll] at hla
    have hsend := sendG hGd 1 (bI (!i)) ((R.s.S i).length - (R.s.wt i).length + 1 + k) (R.s.wt i)[k] (.inl rfl) (bI_le _) (by omega) hbs (show R'.last ≤ _ by omega) (show R'.l.length < _ by omega)
    rw [show R'.gv.gn = R.gn from hS.gn] at hsend
    refine hsend.mono ?_
    rintro _ w3 ⟨p, q, hG3⟩
    (repeat with_reducible first|refine z_a ?_|refine z_b ?_|refine z_c ?_|refine z_d ?_|refine z_e ?_|refine z_f ?_|refine z_g ?_|refine z_h ?_|refine z_i ?_|refine z_j ?_|refine z_k ?_|refine z_l ?_|refine z_m (by omega) ?_|refine z_n (by omega) ?_|refine z_o (by omega) ?_|refine z_p (by omega) ?_|refine z_q (by omega) ?_|refine z_r (by omega) ?_|refine z_s (by omega) ?_|refine z_t (by omega) ?_|refine z_u (by omega) ?_|refine z_v (by omega) ?_|refine z_w (by omega) ?_|refine z_x (by omega) ?_|refine z_y (by omega) ?_|refine z_z (by omega) ?_|refine z_A ?_|refine z_B ?_|refine z_C ?_|refine z_D ?_|refine z_E ?_|refine z_F ?_|refine z_G ?_|refine z_H ?_|refine z_I ?_|refine z_J ?_|refine z_K (by omega) (by decide) ?_|refine z_L (by omega) (by decide) ?_|refine z_M (by omega) ?_|refine z_N (by omega) ?_|refine z_O (by omega) ?_|refine z_P ?_|refine z_Q ?_|refine z_R ?_|refine z_S ?_|refine z_T ?_|refine z_U (by decide) ?_|refine z_V (by decide) ?_)
    have hnew : ltOf ⟨letR ((1 : Nat) : Int) (bI (!i) : Nat) ((R.s.S i).length - (R.s.wt i).length + 1 + k : Nat) (R.s.wt i)[k], p, q, [], []⟩ = .body (!i) ((R.s.S i).length - (R.s.wt i).length + 1 + k) (R.s.wt i)[k] := ltOf_body _ _ _ _ _
    have hok : Roads.okL R'.s (ltOf ⟨letR ((1 : Nat) : Int) (bI (!i) : Nat) ((R.s.S i).length - (R.s.wt i).length + 1 + k : Nat) (R.s.wt i)[k], p, q, [], []⟩) := by
      rw [hnew, hS.s]
      exact hk.good.posted i (List.getElem?_eq_getElem hkw)
    have hpk : ((Roads.posts R.s i).take n.toNat)[k]? = some (.body (!i) ((R.s.S i).length - (R.s.wt i).length + 1 + k) (R.s.wt i)[k]) := by
      rw [List.getElem?_take_of_lt (by omega)]; exact posts_at _ _ _ hkw
    refine hJ _ _ ⟨k + 1, by omega, by simp, R'.more _, hG3, hk'.more (isR_of p q (.inl rfl) (bI_le _) (by omega)) hok, ⟨hS.r, hS.gn, hS.s, ?_, ?_⟩⟩ (by simp [intOf]; omega)
    · show (R'.l ++ [_]).map _ = _
      rw [List.map_append, List.map_cons, List.map_nil]
      show R'.ls ++ [ltOf _] = _
      rw [hnew, hS.ls, List.append_assoc, List.take_add_one, hpk]
      rfl
    · show R'.last + 1 = _
      rw [hla, List.length_take]; omega
  · have hkn : k = N := by omega
    subst hkn
    (repeat with_reducible first|refine z_a ?_|refine z_b ?_|refine z_c ?_|refine z_d ?_|refine z_e ?_|refine z_f ?_|refine z_g ?_|refine z_h ?_|refine z_i ?_|refine z_j ?_|refine z_k ?_|refine z_l ?_|refine z_m (by omega) ?_|refine z_n (by omega) ?_|refine z_o (by omega) ?_|refine z_p (by omega) ?_|refine z_q (by omega) ?_|refine z_r (by omega) ?_|refine z_s (by omega) ?_|refine z_t (by omega) ?_|refine z_u (by omega) ?_|refine z_v (by omega) ?_|refine z_w (by omega) ?_|refine z_x (by omega) ?_|refine z_y (by omega) ?_|refine z_z (by omega) ?_|refine z_A ?_|refine z_B ?_|refine z_C ?_|refine z_D ?_|refine z_E ?_|refine z_F ?_|refine z_G ?_|refine z_H ?_|refine z_I ?_|refine z_J ?_|refine z_K (by omega) (by decide) ?_|refine z_L (by omega) (by decide) ?_|refine z_M (by omega) ?_|refine z_N (by omega) ?_|refine z_O (by omega) ?_|refine z_P ?_|refine z_Q ?_|refine z_R ?_|refine z_S ?_|refine z_T ?_|refine z_U (by decide) ?_|refine z_V (by decide) ?_)
    refine ⟨R', hG.road, hk', ?_⟩
    rw [List.take_of_length_le (by omega)] at hS
    exact hS
theorem tellG {w0 w : World} {R : RoadV} (hM : RoadM w0 w R) (hk : RoadOk R) (i : Bool) (hlast : R.last ≤ 1000000000) (hl : R.l.length < 4096) :
    CallP Try.prog 46 #[ptr R.r, .int .i64 (bI i : Nat)] (fun r w' => ∃ R', RoadM w0 w' R' ∧ RoadOk R' ∧ Sent R R' (Roads.tells R.s i)) w := by
  refine (tell46 hM i (by have := hk.mrk_le i; omega) hlast hl).mono ?_
  rintro _ w' ⟨p, q, h⟩
  have hnew : ltOf ⟨letR ((2 : Nat) : Int) (bI (!i) : Nat) (R.s.mrk i) ⟨#[]⟩, p, q, [], []⟩ = .ack (!i) (R.s.mrk i) := ltOf_ack _ _ _ _
  refine ⟨_, h, hk.more (isR_of p q (.inr rfl) (bI_le _) (by have := hk.mrk_le i; omega)) ?_, ⟨rfl, rfl, rfl, ?_, ?_⟩⟩
  · show Roads.okL R.s (ltOf ⟨letR ((2 : Nat) : Int) (bI (!i) : Nat) (R.s.mrk i) ⟨#[]⟩, p, q, [], []⟩)
    rw [hnew]; exact Roads.Good.told i
  · show (R.l ++ [_]).map _ = _
    rw [List.map_append, List.map_cons, List.map_nil]
    show R.ls ++ [ltOf ⟨letR ((2 : Nat) : Int) (bI (!i) : Nat) (R.s.mrk i) ⟨#[]⟩, p, q, [], []⟩] = _
    rw [hnew]; rfl
  · show R.last + 1 = _
    simp [Roads.tells]
end Go.Proofs.Ythicbfopjakiiaa.E
namespace Go.Proofs.Ythicbfopjakiiaa.E
open Go Go.RowKit
set_option linter.unusedSimpArgs false
set_option linter.unusedVariables false
open Roads (up)

theorem up_self {β : Type} (f : Bool → β) (i : Bool) : up f i (f i) = f := funext fun j => by
  unfold Roads.up
  split
  · rename_i h; rw [h]
  · rfl
theorem and_bI (i : Bool) : bits .and .i64 ((bI i : Nat) : Int) 1 = ((bI i : Nat) : Int) := by cases i <;> decide +kernel
/-- What a letter is. -/
theorem IsR.cases {m : Msg} (h : IsR m) : (∃ (to : Bool) (a : Nat) (b : ByteArray), m.L = letR 1 (bI to : Nat) a b ∧ a ≤ 1099511627776 ∧ ltOf m = .body to a b) ∨ (∃ (to : Bool) (a : Nat) (b : ByteArray), m.L = letR 2 (bI to : Nat) a b ∧ a ≤ 1099511627776 ∧ ltOf m = .ack to a) := by
  obtain ⟨k, to, a, b, e, hk, ht, ha⟩ := h.form
  obtain ⟨i, rfl⟩ : ∃ i : Bool, to = bI i := by
    rcases (show to = 0 ∨ to = 1 by omega) with rfl | rfl
    · exact ⟨false, rfl⟩
    · exact ⟨true, rfl⟩
  rcases hk with rfl | rfl
  · refine .inl ⟨i, a, b, e, ha, ?_⟩
    unfold ltOf
    rw [e]
    unfold letR
    simp only
    rw [if_neg (by omega), bI_dec, Int.toNat_natCast]
  · refine .inr ⟨i, a, b, e, ha, ?_⟩
    unfold ltOf
    rw [e]
    unfold letR
    simp only
    rw [if_pos (by omega), bI_dec, Int.toNat_natCast]
theorem ackN_ackd (S w : List ByteArray) (a : Nat) : ackN S.length w.length a = Roads.ackd S w a := by
  unfold ackN Roads.ackd
  split <;> split <;> omega
theorem RoadOk.bring {R : RoadV} (h : RoadOk R) {x : Roads.Lt ByteArray} (hx : Roads.okL R.s x) (R' : RoadV) (hs : R'.s = Roads.bring R.s x) (hl : R'.l = R.l) (hlast : R'.last = R.last) : RoadOk R' :=
  ⟨by rw [hs, hl]; exact h.good.bring hx, by rw [hl]; exact h.isR, by rw [hl]; exact h.asc, by rw [hl, hlast]; exact h.below, fun i => by rw [hs, Roads.bring_S]; exact h.few i, fun i => by rw [hs, Roads.bring_S]; exact h.short i⟩
theorem takes_nat (mark k : Nat) (hm : mark ≤ 1000) : takes mark (k : Int) ↔ k = mark + 1 := by
  unfold takes
  omega
theorem GM.newBlk {w0 w w' : World} {R : GV} {X : List Thg} (h : GM w0 w R X) {g : Nat} {t : TypeId} {cs : Array Value} (hb : Blk w' g t cs) (hg : w.heap.size ≤ g) (hw : Below w.heap.size w w') : GM w0 w' R (X ++ [blkO 10 g t cs (by decide)]) := by
  obtain ⟨c, back⟩ := h.mem.make
  have := back (blkO 10 g t cs (by decide)) w' ⟨col c w.heap.size 10, col_lt _ _ _, ⟨col_ge _ _ _ hg, hb⟩, hw⟩
  refine ⟨by rw [← List.append_assoc]; exact this, fun x hx => ?_⟩
  rcases List.mem_append.1 hx with hx | hx
  · exact h.hi x hx
  · simp only [List.mem_cons, List.not_mem_nil, or_false] at hx
    rw [hx]; exact (by decide : 9 < 10)
theorem GM.lastBlk {w0 w : World} {R : GV} {X : List Thg} {g : Nat} {t : TypeId} {cs : Array Value} {hp : 0 < 10} (h : GM w0 w R (X ++ [blkO 10 g t cs hp])) : Blk w g t cs := by
  obtain ⟨c, hc⟩ := h.mem.look (o := blkO 10 g t cs hp) (by simp)
  exact hc.2
theorem GM.drop {w0 w : World} {R : GV} {X : List Thg} {o : Thg} (h : GM w0 w R (X ++ [o])) : GM w0 w R X :=
  ⟨h.mem.sub fun x hx => by rcases List.mem_append.1 hx with h | h <;> simp [h], fun x hx => h.hi x (by simp [hx])⟩
theorem GM.cell {w0 w : World} {R : RoadV} {X : List Thg} (h : GM w0 w R.gv X) {o : Nat} {v : Value} (hv : R.cells[o]? = some v) : ∀ w', Below w.heap.size w w' → w'.cell? ⟨R.r, o, none⟩ = some v := fun w' hb => by
  have := (h.blk.1.below' hb).cell o
  rw [show R.gv.r = R.r from rfl, show R.gv.cs = R.cells from rfl, hv] at this
  exact this
/-- A text is appended to what an end took, and the row stored. -/
theorem RoadV.cells_tv (R : RoadV) (i : Bool) (v : Value) : R.cells.setIfInBounds (4 + bI i) v = RoadV.cells { R with tv := up R.tv i v } := by cases i <;> rfl
theorem RoadV.cells_sv (R : RoadV) (i : Bool) (v : Value) : R.cells.setIfInBounds (2 + bI i) v = RoadV.cells { R with sv := up R.sv i v } := by cases i <;> rfl
theorem bring47 {w0 w : World} {R : RoadV} {X : List Thg} (hG : GM w0 w R.gv X) (hk : RoadOk R) (m : Msg) (hm : IsR m) (hok : Roads.okL R.s (ltOf m)) :
    CallP Try.prog 47 #[ptr R.r, m.val] (fun r w' => ∃ R', GM w0 w' R'.gv X ∧ RoadOk R' ∧ R'.r = R.r ∧ R'.gn = R.gn ∧ R'.s = Roads.bring R.s (ltOf m) ∧ R'.l = R.l ∧ R'.last = R.last) w := by
  refine ⟨S47.calls _ _ _ _ ?_⟩
  unfold S47
  refine bxB (cs := m.L.cells m.p m.q) ?_
  rintro gm w1 hgm hL hb1
  have hG1 := hG.newBlk hL (by omega) hb1
  clear hL hb1 hG
  rcases hm.cases with ⟨to, a, b, e, ha, hlt⟩ | ⟨to, a, b, e, ha, hlt⟩
  · -- a text
    rw [e] at hG1
    rw [hlt] at hok ⊢
    have hL := hG1.lastBlk
    have c2 : w1.cell? ⟨gm, 2, none⟩ = some (.int .i64 (bI to : Nat)) := hL.cell 2
    have c0 : w1.cell? ⟨gm, 0, none⟩ = some (.int .i64 1) := hL.cell 0
    (repeat with_reducible first | refine fd l2 (by decide) ?_| refine ld one3 c2 ?_|refine z_a ?_|refine z_b ?_|refine z_c ?_|refine z_d ?_|refine z_e ?_|refine z_f ?_|refine z_g ?_|refine z_h ?_|refine z_i ?_|refine z_j ?_|refine z_k ?_|refine z_l ?_|refine z_m (by omega) ?_|refine z_n (by omega) ?_|refine z_o (by omega) ?_|refine z_p (by omega) ?_|refine z_q (by omega) ?_|refine z_r (by omega) ?_|refine z_s (by omega) ?_|refine z_t (by omega) ?_|refine z_u (by omega) ?_|refine z_v (by omega) ?_|refine z_w (by omega) ?_|refine z_x (by omega) ?_|refine z_y (by omega) ?_|refine z_z (by omega) ?_|refine z_A ?_|refine z_B ?_|refine z_C ?_|refine z_D ?_|refine z_E ?_|refine z_F ?_|refine z_G ?_|refine z_H ?_|refine z_I ?_|refine z_J ?_|refine z_K (by omega) (by decide) ?_|refine z_L (by omega) (by decide) ?_|refine z_M (by omega) ?_|refine z_N (by omega) ?_|refine z_O (by omega) ?_|refine z_P ?_|refine z_Q ?_|refine z_R ?_|refine z_S ?_|refine z_T ?_|refine z_U (by decide) ?_|refine z_V (by decide) ?_)
    rw [and_bI]
    (repeat with_reducible first | refine fd l0 (by decide) ?_| refine ld one3 c0 ?_|refine z_a ?_|refine z_b ?_|refine z_c ?_|refine z_d ?_|refine z_e ?_|refine z_f ?_|refine z_g ?_|refine z_h ?_|refine z_i ?_|refine z_j ?_|refine z_k ?_|refine z_l ?_|refine z_m (by omega) ?_|refine z_n (by omega) ?_|refine z_o (by omega) ?_|refine z_p (by omega) ?_|refine z_q (by omega) ?_|refine z_r (by omega) ?_|refine z_s (by omega) ?_|refine z_t (by omega) ?_|refine z_u (by omega) ?_|refine z_v (by omega) ?_|refine z_w (by omega) ?_|refine z_x (by omega) ?_|refine z_y (by omega) ?_|refine z_z (by omega) ?_|refine z_A ?_|refine z_B ?_|refine z_C ?_|refine z_D ?_|refine z_E ?_|refine z_F ?_|refine z_G ?_|refine z_H ?_|refine z_I ?_|refine z_J ?_|refine z_K (by omega) (by decide) ?_|refine z_L (by omega) (by decide) ?_|refine z_M (by omega) ?_|refine z_N (by omega) ?_|refine z_O (by omega) ?_|refine z_P ?_|refine z_Q ?_|refine z_R ?_|refine z_S ?_|refine z_T ?_|refine z_U (by decide) ?_|refine z_V (by decide) ?_)
    have hdr : Below w1.heap.size w1 w1.drew := (Below.refl _ _).drew
    have hG2 := hG1.below hdr
    have kg := hG1.cell (R.cg to)
    have k3 : ∀ w', Below w1.heap.size w1 w' → w'.cell? ⟨gm, 3, none⟩ = some (.int .i64 (a : Nat)) := fun w' h => (hL.below' h).cell 3
    have k13 : ∀ w', Below w1.heap.size w1 w' → w'.cell? ⟨gm, 13, none⟩ = some (.string b) := fun w' h => (hL.below' h).cell 13
    refine draw (Below w1.heap.size w1) hdr ?_
    generalize w1.drew = w2 at *
    (repeat with_reducible first | refine yfd ro0 (by decide) ?_|refine z_W ?_|refine z_a ?_|refine z_b ?_|refine z_c ?_|refine z_d ?_|refine z_e ?_|refine z_f ?_|refine z_g ?_|refine z_h ?_|refine z_i ?_|refine z_j ?_|refine z_k ?_|refine z_l ?_|refine z_X (by omega) ?_|refine z_Y (by omega) ?_|refine z_Z (by omega) ?_|refine z_a1 (by omega) ?_|refine z_b1 (by omega) ?_|refine z_c1 (by omega) ?_|refine z_d1 (by omega) ?_|refine z_e1 (by omega) ?_|refine z_f1 (by omega) ?_|refine z_g1 (by omega) ?_|refine z_h1 (by omega) ?_|refine z_i1 (by omega) ?_|refine z_j1 (by omega) ?_|refine z_k1 (by omega) ?_|refine z_l1 ?_|refine z_m1 ?_|refine z_n1 ?_|refine z_o1 ?_|refine z_p1 ?_|refine z_q1 ?_|refine z_r1 ?_|refine z_s1 ?_|refine z_t1 ?_|refine z_u1 ?_|refine z_v1 (by omega) (by decide) ?_|refine z_w1 (by omega) (by decide) ?_|refine z_x1 (by omega) ?_|refine z_y1 (by omega) ?_|refine z_z1 (by omega) ?_|refine z_A1 ?_|refine z_B1 ?_|refine z_C1 ?_|refine z_D1 ?_|refine z_E1 ?_|refine z_F1 (by decide) ?_|refine z_G1 (by decide) ?_)
    refine yixO und87 sz23' (bI to) (bI_lt to) ?_
    refine yl1 one23' kg ?_
    (repeat with_reducible first | refine yfd l3 (by decide) ?_| refine yl1 one3 k3 ?_| refine yfd l13 (by decide) ?_| refine yl1 one9 k13 ?_|refine z_W ?_|refine z_a ?_|refine z_b ?_|refine z_c ?_|refine z_d ?_|refine z_e ?_|refine z_f ?_|refine z_g ?_|refine z_h ?_|refine z_i ?_|refine z_j ?_|refine z_k ?_|refine z_l ?_|refine z_X (by omega) ?_|refine z_Y (by omega) ?_|refine z_Z (by omega) ?_|refine z_a1 (by omega) ?_|refine z_b1 (by omega) ?_|refine z_c1 (by omega) ?_|refine z_d1 (by omega) ?_|refine z_e1 (by omega) ?_|refine z_f1 (by omega) ?_|refine z_g1 (by omega) ?_|refine z_h1 (by omega) ?_|refine z_i1 (by omega) ?_|refine z_j1 (by omega) ?_|refine z_k1 (by omega) ?_|refine z_l1 ?_|refine z_m1 ?_|refine z_n1 ?_|refine z_o1 ?_|refine z_p1 ?_|refine z_q1 ?_|refine z_r1 ?_|refine z_s1 ?_|refine z_t1 ?_|refine z_u1 ?_|refine z_v1 (by omega) (by decide) ?_|refine z_w1 (by omega) (by decide) ?_|refine z_x1 (by omega) ?_|refine z_y1 (by omega) ?_|refine z_z1 (by omega) ?_|refine z_A1 ?_|refine z_B1 ?_|refine z_C1 ?_|refine z_D1 ?_|refine z_E1 ?_|refine z_F1 (by decide) ?_|refine z_G1 (by decide) ?_)
    obtain ⟨F, hE, back⟩ := hG2.end_ to
    have hmk := hk.mrk_le to
    refine (Take_F F w2 (R.g to) (R.s.mrk to) (R.s.S to).length (R.s.wt to) a (.string b) hE (by omega) (by omega)).mono ?_
    rintro _ w3 ⟨rfl, hE3, hT3⟩
    have hG3 := back _ _ _ _ (hE3.mono fun k hk => .inl hk) hT3
    have esn : up R.gv.sn to (R.s.S to).length = R.gv.sn := up_self _ _
    have ewt : up R.gv.wt to (R.s.wt to) = R.gv.wt := up_self _ _
    rw [esn, ewt] at hG3
    refine CondP.dec (fun ht => ?_) (fun ht => ?_)
    · rw [if_pos ht] at hG3
      have ha1 : a = R.s.mrk to + 1 := (takes_nat _ _ (by omega)).1 ht
      -- the text is told of
      have hL3 := hG3.lastBlk
      have hdr3 : Below w3.heap.size w3 w3.drew := (Below.refl _ _).drew
      have hblk3 := hG3.blk.1
      have rd0 : ∀ {w' : World}, GM w0 w' { R.gv with mrk := up R.gv.mrk to (R.s.mrk to + 1) } (X ++ [blkO 10 gm 58 ((letR 1 (bI to : Nat) a b).cells m.p m.q) (by decide)]) → w'.cell? ⟨R.r, 4 + bI to, none⟩ = some (R.tv to) ∧ w'.cell? ⟨gm, 13, none⟩ = some (.string b) := fun {w'} h => by
        have h1 := h.blk.1.cell (4 + bI to)
        rw [show GV.cs { R.gv with mrk := up R.gv.mrk to (R.s.mrk to + 1) } = R.cells from rfl, R.ct to] at h1
        exact ⟨h1, h.lastBlk.cell 13⟩
      have hG4 := hG3.below hdr3
      refine draw (fun w' => w'.cell? ⟨R.r, 4 + bI to, none⟩ = some (R.tv to) ∧ w'.cell? ⟨gm, 13, none⟩ = some (.string b)) (rd0 hG4) ?_
      generalize w3.drew = w4 at *
      (repeat with_reducible first | refine yfd ro2 (by decide) ?_|refine z_W ?_|refine z_a ?_|refine z_b ?_|refine z_c ?_|refine z_d ?_|refine z_e ?_|refine z_f ?_|refine z_g ?_|refine z_h ?_|refine z_i ?_|refine z_j ?_|refine z_k ?_|refine z_l ?_|refine z_X (by omega) ?_|refine z_Y (by omega) ?_|refine z_Z (by omega) ?_|refine z_a1 (by omega) ?_|refine z_b1 (by omega) ?_|refine z_c1 (by omega) ?_|refine z_d1 (by omega) ?_|refine z_e1 (by omega) ?_|refine z_f1 (by omega) ?_|refine z_g1 (by omega) ?_|refine z_h1 (by omega) ?_|refine z_i1 (by omega) ?_|refine z_j1 (by omega) ?_|refine z_k1 (by omega) ?_|refine z_l1 ?_|refine z_m1 ?_|refine z_n1 ?_|refine z_o1 ?_|refine z_p1 ?_|refine z_q1 ?_|refine z_r1 ?_|refine z_s1 ?_|refine z_t1 ?_|refine z_u1 ?_|refine z_v1 (by omega) (by decide) ?_|refine z_w1 (by omega) (by decide) ?_|refine z_x1 (by omega) ?_|refine z_y1 (by omega) ?_|refine z_z1 (by omega) ?_|refine z_A1 ?_|refine z_B1 ?_|refine z_C1 ?_|refine z_D1 ?_|refine z_E1 ?_|refine z_F1 (by decide) ?_|refine z_G1 (by decide) ?_)
      refine yixO und88 sz37' (bI to) (bI_lt to) ?_
      refine yl1 one37' (fun w' h => h.1) ?_
      (repeat with_reducible first | refine yfd l13 (by decide) ?_| refine yl1 one9 (fun w' h => h.2) ?_| refine yfd ro2 (by decide) ?_|refine z_W ?_|refine z_a ?_|refine z_b ?_|refine z_c ?_|refine z_d ?_|refine z_e ?_|refine z_f ?_|refine z_g ?_|refine z_h ?_|refine z_i ?_|refine z_j ?_|refine z_k ?_|refine z_l ?_|refine z_X (by omega) ?_|refine z_Y (by omega) ?_|refine z_Z (by omega) ?_|refine z_a1 (by omega) ?_|refine z_b1 (by omega) ?_|refine z_c1 (by omega) ?_|refine z_d1 (by omega) ?_|refine z_e1 (by omega) ?_|refine z_f1 (by omega) ?_|refine z_g1 (by omega) ?_|refine z_h1 (by omega) ?_|refine z_i1 (by omega) ?_|refine z_j1 (by omega) ?_|refine z_k1 (by omega) ?_|refine z_l1 ?_|refine z_m1 ?_|refine z_n1 ?_|refine z_o1 ?_|refine z_p1 ?_|refine z_q1 ?_|refine z_r1 ?_|refine z_s1 ?_|refine z_t1 ?_|refine z_u1 ?_|refine z_v1 (by omega) (by decide) ?_|refine z_w1 (by omega) (by decide) ?_|refine z_x1 (by omega) ?_|refine z_y1 (by omega) ?_|refine z_z1 (by omega) ?_|refine z_A1 ?_|refine z_B1 ?_|refine z_C1 ?_|refine z_D1 ?_|refine z_E1 ?_|refine z_F1 (by decide) ?_|refine z_G1 (by decide) ?_)
      refine act ?_
      refine lift (v := .slice (some ⟨w4.heap.size, 0, none⟩) 1 1) (w' := w4.alloc (.cells #[.string b] 9)) (by kernel_rfl) ?_
      have hab : Below w4.heap.size w4 (w4.alloc (.cells #[.string b] 9)) := (Below.refl _ _).alloc (Nat.le_refl _) _
      have hG5 := hG4.below hab
      have hx : Rd (w4.alloc (.cells #[.string b] 9)) (.slice (some ⟨w4.heap.size, 0, none⟩) 1 1) [.string b] := (Own.new w4 9 [.string b] (by simp)).rd
      refine ⟨_, rd0 hG5, fun _ h => h, ?_⟩
      generalize w4.alloc (.cells #[.string b] 9) = w5 at *
      generalize Value.slice (some ⟨w4.heap.size, 0, none⟩) 1 1 = vx at *
      obtain ⟨hrow, back5⟩ := hG5.trow to
      refine act ?_
      refine apT und37 inf9 (by rfl) (by decide) hrow hx (by simp [Value.oneCell']) (by
        have := (hk.good.dir (!to)).len
        rw [Bool.not_not] at this
        show ((txs (R.s.T to)).length + 1) * 16 ≤ _
        rw [txs_len]; omega) ?_
      intro v' w6 ho6 hv6 hT6
      have hG6 := back5 v' (R.s.T to ++ [b]) w6 (by unfold txs at ho6 ⊢; rw [List.map_append]; exact ho6) hv6 hT6
      obtain ⟨hB6, back6⟩ := hG6.blk
      replace hB6 : Blk w6 R.r 90 R.cells := hB6
      have c4 : w6.cell? ⟨R.r, 4 + bI to, none⟩ = some (R.tv to) := by rw [hB6.cell, R.ct]
      refine ⟨_, ⟨c4, hG6.lastBlk.cell 13⟩, fun _ h => h, ?_⟩
      refine yixO und88 sz37' (bI to) (bI_lt to) ?_
      refine st sz37' (by rcases ho6.2 with ⟨e, _⟩ | ⟨_, _, _, e, _⟩ <;> rw [e] <;> rfl) (by rw [c4]; rfl) (hB6.frozen _) ?_
      have hG7 := back6 _ _ (hB6.set_ (4 + bI to) v') (Turns.setCell (F := fun j => j = R.r) (p := ⟨R.r, 4 + bI to, none⟩) (Turns.refl _ w6) (.inl rfl) v')
      (repeat with_reducible first|refine z_a ?_|refine z_b ?_|refine z_c ?_|refine z_d ?_|refine z_e ?_|refine z_f ?_|refine z_g ?_|refine z_h ?_|refine z_i ?_|refine z_j ?_|refine z_k ?_|refine z_l ?_|refine z_m (by omega) ?_|refine z_n (by omega) ?_|refine z_o (by omega) ?_|refine z_p (by omega) ?_|refine z_q (by omega) ?_|refine z_r (by omega) ?_|refine z_s (by omega) ?_|refine z_t (by omega) ?_|refine z_u (by omega) ?_|refine z_v (by omega) ?_|refine z_w (by omega) ?_|refine z_x (by omega) ?_|refine z_y (by omega) ?_|refine z_z (by omega) ?_|refine z_A ?_|refine z_B ?_|refine z_C ?_|refine z_D ?_|refine z_E ?_|refine z_F ?_|refine z_G ?_|refine z_H ?_|refine z_I ?_|refine z_J ?_|refine z_K (by omega) (by decide) ?_|refine z_L (by omega) (by decide) ?_|refine z_M (by omega) ?_|refine z_N (by omega) ?_|refine z_O (by omega) ?_|refine z_P ?_|refine z_Q ?_|refine z_R ?_|refine z_S ?_|refine z_T ?_|refine z_U (by decide) ?_|refine z_V (by decide) ?_)
      have eb : Roads.bring R.s (.body to a b) = ⟨R.s.S, up R.s.T to (R.s.T to ++ [b]), up R.s.mrk to a, R.s.wt⟩ := by
        unfold Roads.bring
        simp only
        rw [if_pos ha1]
      refine ⟨{ R with s := Roads.bring R.s (.body to a b), tv := up R.tv to v' }, ?_, hk.bring hok _ rfl rfl rfl, rfl, rfl, rfl, rfl, rfl⟩
      have := hG7.drop
      rw [R.cells_tv to v'] at this
      rw [eb, ha1]
      exact this
    · rw [if_neg ht] at hG3
      have emk : up R.gv.mrk to (R.s.mrk to) = R.gv.mrk := up_self _ _
      rw [emk] at hG3
      (repeat with_reducible first|refine z_a ?_|refine z_b ?_|refine z_c ?_|refine z_d ?_|refine z_e ?_|refine z_f ?_|refine z_g ?_|refine z_h ?_|refine z_i ?_|refine z_j ?_|refine z_k ?_|refine z_l ?_|refine z_m (by omega) ?_|refine z_n (by omega) ?_|refine z_o (by omega) ?_|refine z_p (by omega) ?_|refine z_q (by omega) ?_|refine z_r (by omega) ?_|refine z_s (by omega) ?_|refine z_t (by omega) ?_|refine z_u (by omega) ?_|refine z_v (by omega) ?_|refine z_w (by omega) ?_|refine z_x (by omega) ?_|refine z_y (by omega) ?_|refine z_z (by omega) ?_|refine z_A ?_|refine z_B ?_|refine z_C ?_|refine z_D ?_|refine z_E ?_|refine z_F ?_|refine z_G ?_|refine z_H ?_|refine z_I ?_|refine z_J ?_|refine z_K (by omega) (by decide) ?_|refine z_L (by omega) (by decide) ?_|refine z_M (by omega) ?_|refine z_N (by omega) ?_|refine z_O (by omega) ?_|refine z_P ?_|refine z_Q ?_|refine z_R ?_|refine z_S ?_|refine z_T ?_|refine z_U (by decide) ?_|refine z_V (by decide) ?_)
      refine ⟨R, hG3.drop, hk, rfl, rfl, ?_, rfl, rfl⟩
      unfold Roads.bring
      simp only
      rw [if_neg fun h => ht ((takes_nat _ _ (by omega)).2 h)]
  · -- a mark
    rw [e] at hG1
    rw [hlt] at hok ⊢
    have hL := hG1.lastBlk
    have c2 : w1.cell? ⟨gm, 2, none⟩ = some (.int .i64 (bI to : Nat)) := hL.cell 2
    have c0 : w1.cell? ⟨gm, 0, none⟩ = some (.int .i64 2) := hL.cell 0
    (repeat with_reducible first | refine fd l2 (by decide) ?_| refine ld one3 c2 ?_|refine z_a ?_|refine z_b ?_|refine z_c ?_|refine z_d ?_|refine z_e ?_|refine z_f ?_|refine z_g ?_|refine z_h ?_|refine z_i ?_|refine z_j ?_|refine z_k ?_|refine z_l ?_|refine z_m (by omega) ?_|refine z_n (by omega) ?_|refine z_o (by omega) ?_|refine z_p (by omega) ?_|refine z_q (by omega) ?_|refine z_r (by omega) ?_|refine z_s (by omega) ?_|refine z_t (by omega) ?_|refine z_u (by omega) ?_|refine z_v (by omega) ?_|refine z_w (by omega) ?_|refine z_x (by omega) ?_|refine z_y (by omega) ?_|refine z_z (by omega) ?_|refine z_A ?_|refine z_B ?_|refine z_C ?_|refine z_D ?_|refine z_E ?_|refine z_F ?_|refine z_G ?_|refine z_H ?_|refine z_I ?_|refine z_J ?_|refine z_K (by omega) (by decide) ?_|refine z_L (by omega) (by decide) ?_|refine z_M (by omega) ?_|refine z_N (by omega) ?_|refine z_O (by omega) ?_|refine z_P ?_|refine z_Q ?_|refine z_R ?_|refine z_S ?_|refine z_T ?_|refine z_U (by decide) ?_|refine z_V (by decide) ?_)
    rw [and_bI]
    (repeat with_reducible first | refine fd l0 (by decide) ?_| refine ld one3 c0 ?_|refine z_a ?_|refine z_b ?_|refine z_c ?_|refine z_d ?_|refine z_e ?_|refine z_f ?_|refine z_g ?_|refine z_h ?_|refine z_i ?_|refine z_j ?_|refine z_k ?_|refine z_l ?_|refine z_m (by omega) ?_|refine z_n (by omega) ?_|refine z_o (by omega) ?_|refine z_p (by omega) ?_|refine z_q (by omega) ?_|refine z_r (by omega) ?_|refine z_s (by omega) ?_|refine z_t (by omega) ?_|refine z_u (by omega) ?_|refine z_v (by omega) ?_|refine z_w (by omega) ?_|refine z_x (by omega) ?_|refine z_y (by omega) ?_|refine z_z (by omega) ?_|refine z_A ?_|refine z_B ?_|refine z_C ?_|refine z_D ?_|refine z_E ?_|refine z_F ?_|refine z_G ?_|refine z_H ?_|refine z_I ?_|refine z_J ?_|refine z_K (by omega) (by decide) ?_|refine z_L (by omega) (by decide) ?_|refine z_M (by omega) ?_|refine z_N (by omega) ?_|refine z_O (by omega) ?_|refine z_P ?_|refine z_Q ?_|refine z_R ?_|refine z_S ?_|refine z_T ?_|refine z_U (by decide) ?_|refine z_V (by decide) ?_)
    have hdr : Below w1.heap.size w1 w1.drew := (Below.refl _ _).drew
    have hG2 := hG1.below hdr
    have kg := hG1.cell (R.cg to)
    have k3 : ∀ w', Below w1.heap.size w1 w' → w'.cell? ⟨gm, 3, none⟩ = some (.int .i64 (a : Nat)) := fun w' h => (hL.below' h).cell 3
    refine draw (Below w1.heap.size w1) hdr ?_
    generalize w1.drew = w2 at *
    (repeat with_reducible first | refine yfd ro0 (by decide) ?_|refine z_W ?_|refine z_a ?_|refine z_b ?_|refine z_c ?_|refine z_d ?_|refine z_e ?_|refine z_f ?_|refine z_g ?_|refine z_h ?_|refine z_i ?_|refine z_j ?_|refine z_k ?_|refine z_l ?_|refine z_X (by omega) ?_|refine z_Y (by omega) ?_|refine z_Z (by omega) ?_|refine z_a1 (by omega) ?_|refine z_b1 (by omega) ?_|refine z_c1 (by omega) ?_|refine z_d1 (by omega) ?_|refine z_e1 (by omega) ?_|refine z_f1 (by omega) ?_|refine z_g1 (by omega) ?_|refine z_h1 (by omega) ?_|refine z_i1 (by omega) ?_|refine z_j1 (by omega) ?_|refine z_k1 (by omega) ?_|refine z_l1 ?_|refine z_m1 ?_|refine z_n1 ?_|refine z_o1 ?_|refine z_p1 ?_|refine z_q1 ?_|refine z_r1 ?_|refine z_s1 ?_|refine z_t1 ?_|refine z_u1 ?_|refine z_v1 (by omega) (by decide) ?_|refine z_w1 (by omega) (by decide) ?_|refine z_x1 (by omega) ?_|refine z_y1 (by omega) ?_|refine z_z1 (by omega) ?_|refine z_A1 ?_|refine z_B1 ?_|refine z_C1 ?_|refine z_D1 ?_|refine z_E1 ?_|refine z_F1 (by decide) ?_|refine z_G1 (by decide) ?_)
    refine yixO und87 sz23' (bI to) (bI_lt to) ?_
    refine yl1 one23' kg ?_
    (repeat with_reducible first | refine yfd l3 (by decide) ?_| refine yl1 one3 k3 ?_|refine z_W ?_|refine z_a ?_|refine z_b ?_|refine z_c ?_|refine z_d ?_|refine z_e ?_|refine z_f ?_|refine z_g ?_|refine z_h ?_|refine z_i ?_|refine z_j ?_|refine z_k ?_|refine z_l ?_|refine z_X (by omega) ?_|refine z_Y (by omega) ?_|refine z_Z (by omega) ?_|refine z_a1 (by omega) ?_|refine z_b1 (by omega) ?_|refine z_c1 (by omega) ?_|refine z_d1 (by omega) ?_|refine z_e1 (by omega) ?_|refine z_f1 (by omega) ?_|refine z_g1 (by omega) ?_|refine z_h1 (by omega) ?_|refine z_i1 (by omega) ?_|refine z_j1 (by omega) ?_|refine z_k1 (by omega) ?_|refine z_l1 ?_|refine z_m1 ?_|refine z_n1 ?_|refine z_o1 ?_|refine z_p1 ?_|refine z_q1 ?_|refine z_r1 ?_|refine z_s1 ?_|refine z_t1 ?_|refine z_u1 ?_|refine z_v1 (by omega) (by decide) ?_|refine z_w1 (by omega) (by decide) ?_|refine z_x1 (by omega) ?_|refine z_y1 (by omega) ?_|refine z_z1 (by omega) ?_|refine z_A1 ?_|refine z_B1 ?_|refine z_C1 ?_|refine z_D1 ?_|refine z_E1 ?_|refine z_F1 (by decide) ?_|refine z_G1 (by decide) ?_)
    obtain ⟨F, hE, back⟩ := hG2.end_ to
    have hfew := hk.few to
    have hwt := hk.wt_le to
    refine (Acked_F F w2 (R.g to) (R.s.mrk to) (R.s.S to).length (R.s.wt to) a hE (hk.good.dir to).lw (by omega) (by omega)).mono ?_
    rintro _ w3 ⟨rfl, hE3, hT3⟩
    have hG3 := back _ _ _ _ hE3 hT3
    have emk : up R.gv.mrk to (R.s.mrk to) = R.gv.mrk := up_self _ _
    have esn : up R.gv.sn to (R.s.S to).length = R.gv.sn := up_self _ _
    rw [emk, esn, ackN_ackd] at hG3
    (repeat with_reducible first|refine z_a ?_|refine z_b ?_|refine z_c ?_|refine z_d ?_|refine z_e ?_|refine z_f ?_|refine z_g ?_|refine z_h ?_|refine z_i ?_|refine z_j ?_|refine z_k ?_|refine z_l ?_|refine z_m (by omega) ?_|refine z_n (by omega) ?_|refine z_o (by omega) ?_|refine z_p (by omega) ?_|refine z_q (by omega) ?_|refine z_r (by omega) ?_|refine z_s (by omega) ?_|refine z_t (by omega) ?_|refine z_u (by omega) ?_|refine z_v (by omega) ?_|refine z_w (by omega) ?_|refine z_x (by omega) ?_|refine z_y (by omega) ?_|refine z_z (by omega) ?_|refine z_A ?_|refine z_B ?_|refine z_C ?_|refine z_D ?_|refine z_E ?_|refine z_F ?_|refine z_G ?_|refine z_H ?_|refine z_I ?_|refine z_J ?_|refine z_K (by omega) (by decide) ?_|refine z_L (by omega) (by decide) ?_|refine z_M (by omega) ?_|refine z_N (by omega) ?_|refine z_O (by omega) ?_|refine z_P ?_|refine z_Q ?_|refine z_R ?_|refine z_S ?_|refine z_T ?_|refine z_U (by decide) ?_|refine z_V (by decide) ?_)
    exact ⟨{ R with s := Roads.bring R.s (.ack to a) }, hG3.drop, hk.bring hok _ rfl rfl rfl, rfl, rfl, rfl, rfl, rfl⟩
end Go.Proofs.Ythicbfopjakiiaa.E
namespace Go.Proofs.Ythicbfopjakiiaa.E
open Go Go.RowKit
set_option linter.unusedSimpArgs false
set_option linter.unusedVariables false
open Roads (up)

theorem delK_sublist {α : Type} (k : Int) : ∀ l : List (Int × α), List.Sublist (delK k l) l
  | [] => List.Sublist.slnil
  | (a, u) :: r => by
    rw [delK]
    split
    · exact List.sublist_cons_self _ _
    · exact (delK_sublist k r).cons_cons _
/-- Letters are lost. -/
def RoadV.less (R : RoadV) (n : Int) : RoadV := { R with l := delK n R.l }
theorem RoadOk.less {R : RoadV} (h : RoadOk R) (n : Int) : RoadOk (R.less n) :=
  ⟨h.good.sub fun x hx => by
      obtain ⟨y, hy, rfl⟩ := List.mem_map.1 hx
      exact .inl (List.mem_map.2 ⟨y, (delK_sublist n R.l).subset hy, rfl⟩),
    fun x hx => h.isR x ((delK_sublist n R.l).subset hx), h.asc.sublist ((delK_sublist n R.l).map _), fun x hx => h.below x ((delK_sublist n R.l).subset hx), h.few, h.short⟩
theorem RoadV.less_none {R : RoadV} {n : Int} (h : getK n R.l = none) : R.less n = R := by
  have : delK n R.l = R.l := delK_none n R.l (by rw [getK_idx] at h; simpa using h)
  unfold RoadV.less
  rw [this]
section
variable {w0 w : World} {R : RoadV} {X : List Thg}
theorem GM.deliver (h : GM w0 w R.gv X) (n : Int) : CallP Try.prog 33 #[ptr R.gn, .int .i64 n] (fun r w' => GM w0 w' (R.less n).gv X ∧ match getK n R.l with
    | none => r = .tuple #[.agg (zeroLet.cells (.slice none 0 0) (.slice none 0 0)), .int .i64 7]
    | some m => r = .tuple #[m.val, .int .i64 0] ∧ m.p.oneCell' = true ∧ m.q.oneCell' = true) w := by
  obtain ⟨cn, hN, back⟩ := h.net
  refine (Deliver_net cn w R.gn R.last R.l n hN).mono ?_
  intro r w' hr
  cases hx : getK n R.l with
  | none =>
    rw [hx] at hr
    rw [RoadV.less_none hx]
    exact ⟨back _ _ _ hr.2, hr.1⟩
  | some m =>
    rw [hx] at hr
    obtain ⟨e, hN', _, hT⟩ := hr
    have := hN.one (getK_mem _ _ _ hx)
    exact ⟨back R.last (delK n R.l) w' ⟨cn, fun _ _ => rfl, hN', hT⟩, e, this⟩
theorem GM.lose (h : GM w0 w R.gv X) (n : Int) : CallP Try.prog 39 #[ptr R.gn, .int .i64 n] (fun r w' => GM w0 w' (R.less n).gv X) w := by
  refine ⟨S39.calls _ _ _ _ ?_⟩
  unfold S39
  refine (h.deliver n).mono ?_
  rintro r w1 ⟨hG, hr⟩
  have : ∃ L p q e, r = .tuple #[.agg (Let.cells L p q), .int .i64 e] ∧ p.oneCell' = true ∧ q.oneCell' = true := by
    cases hx : getK n R.l with
    | none => rw [hx] at hr; exact ⟨_, _, _, _, hr, rfl, rfl⟩
    | some m => rw [hx] at hr; exact ⟨_, _, _, _, hr.1, hr.2.1, hr.2.2⟩
  obtain ⟨L, p, q, e, rfl, o1, o2⟩ := this
  (repeat with_reducible first|refine z_a ?_|refine z_b ?_|refine z_c ?_|refine z_d ?_|refine z_e ?_|refine z_f ?_|refine z_g ?_|refine z_h ?_|refine z_i ?_|refine z_j ?_|refine z_k ?_|refine z_l ?_|refine z_m (by omega) ?_|refine z_n (by omega) ?_|refine z_o (by omega) ?_|refine z_p (by omega) ?_|refine z_q (by omega) ?_|refine z_r (by omega) ?_|refine z_s (by omega) ?_|refine z_t (by omega) ?_|refine z_u (by omega) ?_|refine z_v (by omega) ?_|refine z_w (by omega) ?_|refine z_x (by omega) ?_|refine z_y (by omega) ?_|refine z_z (by omega) ?_|refine z_A ?_|refine z_B ?_|refine z_C ?_|refine z_D ?_|refine z_E ?_|refine z_F ?_|refine z_G ?_|refine z_H ?_|refine z_I ?_|refine z_J ?_|refine z_K (by omega) (by decide) ?_|refine z_L (by omega) (by decide) ?_|refine z_M (by omega) ?_|refine z_N (by omega) ?_|refine z_O (by omega) ?_|refine z_P ?_|refine z_Q ?_|refine z_R ?_|refine z_S ?_|refine z_T ?_|refine z_U (by decide) ?_|refine z_V (by decide) ?_)
  refine newLet o1 o2 ?_
  intro w2 _ hb2
  exact hG.below hb2
theorem GM.twice (h : GM w0 w R.gv X) (hk : RoadOk R) (n : Int) (hlast : R.last ≤ 1000000000) (hl : R.l.length < 4096) :
    CallP Try.prog 31 #[ptr R.gn, .int .i64 n] (fun r w' => ∃ R', GM w0 w' R'.gv X ∧ RoadOk R' ∧ R'.r = R.r ∧ R'.gn = R.gn ∧ R'.s = R.s ∧ R'.l.length ≤ R.l.length + 1 ∧ R'.last ≤ R.last + 1) w := by
  obtain ⟨cn, hN, back⟩ := h.net
  refine (Twice_net cn w R.gn R.last R.l n hN hlast).mono ?_
  intro r w' hr
  cases hx : getK n R.l with
  | none =>
    rw [hx] at hr
    exact ⟨R, back _ _ _ hr.2, hk, rfl, rfl, rfl, by omega, by omega⟩
  | some m =>
    rw [hx] at hr
    simp only at hr
    unfold Added at hr
    rw [if_neg (by omega)] at hr
    obtain ⟨_, p, q, hL⟩ := hr
    have hmem := getK_mem _ _ _ hx
    have hI := hk.isR _ hmem
    refine ⟨R.more ⟨m.L, p, q, m.ps, m.is⟩, back _ _ _ hL, hk.more ⟨hI.form, hI.ps, hI.is⟩ ?_, rfl, rfl, rfl, by simp [RoadV.more], by simp [RoadV.more]⟩
    have := hk.good.ok (ltOf m) (List.mem_map.2 ⟨_, hmem, rfl⟩)
    exact this
theorem mergeSort_asc : ∀ {l : List Int}, l.Pairwise (· < ·) → l.mergeSort leI = l := fun {l} h =>
  List.mergeSort_of_pairwise (h.imp fun h => by simp only [leI, decide_eq_true_eq]; omega)
theorem GM.under (h : GM w0 w R.gv []) (hk : RoadOk R) (hl : R.l.length ≤ 1000000) : CallP Try.prog 43 #[ptr R.gn] (fun r w' => GM w0 w' R.gv [rowO 10 3 r ((R.l.map (·.1)).map (Value.int .i64)) (by decide)]) w := by
  obtain ⟨cn, hN, back⟩ := h.net
  refine (Under_net cn w R.gn R.last R.l hN hl).mono ?_
  rintro r w' ⟨h1, h2, h3⟩
  rw [mergeSort_asc hk.asc] at h1
  exact h.newRow h1 h2 h3
end
theorem and1 (a : Int) : ∃ i : Bool, bits .and .i64 a 1 = ((bI i : Nat) : Int) := by
  have h : ∀ x : BitVec 64, (x &&& 1#64) = 0#64 ∨ (x &&& 1#64) = 1#64 := fun x => by
    have e : (x &&& 1#64).toNat = x.toNat % 2 := by rw [BitVec.toNat_and]; exact Nat.and_one_is_mod _
    rcases Nat.mod_two_eq_zero_or_one x.toNat with h | h
    · left; apply BitVec.eq_of_toNat_eq; rw [e, h]; rfl
    · right; apply BitVec.eq_of_toNat_eq; rw [e, h]; rfl
  rcases h (BitVec.ofInt 64 a) with h | h
  · refine ⟨false, ?_⟩
    have : BitVec.ofInt 64 a &&& BitVec.ofInt 64 1 = 0#64 := h
    show IntKind.i64.wrap ((BitVec.ofInt 64 a &&& BitVec.ofInt 64 1).toNat : Int) = 0
    rw [this]; rfl
  · refine ⟨true, ?_⟩
    have : BitVec.ofInt 64 a &&& BitVec.ofInt 64 1 = 1#64 := h
    show IntKind.i64.wrap ((BitVec.ofInt 64 a &&& BitVec.ofInt 64 1).toNat : Int) = 1
    rw [this]; rfl
/-- The index that uint(n) % uint(len) is. -/
theorem umod (n : Int) (len : Nat) (h0 : 0 < len) (h1 : len ≤ 1000000) : ∃ i : Nat, i < len ∧ IntKind.i64.wrap ((IntKind.u64.wrap n).tmod (IntKind.u64.wrap (len : Int))) = (i : Int) := by
  have hl : IntKind.u64.wrap (len : Int) = len := IntWalk.u64_in _ (by omega)
  have hn : 0 ≤ IntKind.u64.wrap n := by
    have e : IntKind.u64.wrap n = n % 18446744073709551616 := rfl
    rw [e]; omega
  rw [hl, Int.tmod_eq_emod_of_nonneg hn]
  have h2 : 0 ≤ IntKind.u64.wrap n % len := Int.emod_nonneg _ (by omega)
  have h3 : IntKind.u64.wrap n % len < len := Int.emod_lt_of_pos _ (by omega)
  refine ⟨(IntKind.u64.wrap n % len).toNat, by omega, ?_⟩
  rw [IntWalk.i64_in _ (by omega)]
  omega
abbrev MoveT := Int × Int × Int × ByteArray × Unit
def rMove : Rdr MoveT := rCons 1 (rI .i64) (rCons 1 (rI .i64) (rCons 1 (rI .i64) (rCons 1 rS rNil)))
def Moves : Rdr (List MoveT) := rRow 4 rMove
theorem keeps_Moves : Keeps Moves := keeps_Row (keeps_Cons (keeps_I _) (keeps_Cons (keeps_I _) (keeps_Cons (keeps_I _) (keeps_Cons keeps_S keeps_Nil))))
theorem move_cells {w : World} {us : List Value} {x : MoveT} (h : rMove w us x) : us = [.int .i64 x.1, .int .i64 x.2.1, .int .i64 x.2.2.1, .string x.2.2.2.1] := by
  obtain ⟨r, rfl, _, h⟩ := rCons_I h
  obtain ⟨r, rfl, _, h⟩ := rCons_I h
  obtain ⟨r, rfl, _, h⟩ := rCons_I h
  obtain ⟨r, rfl, _, h⟩ := rCons_S h
  have : r = [] := h
  rw [this]
theorem und85 : Try.prog.underlying 85 = some (.slice 92) := by kernel_rfl
theorem sz92 : (Try.prog.info? 92).map (·.size) = some 4 := by kernel_rfl
theorem mv0 : fofs Try.prog 92 0 = some (0, 1) := by kernel_rfl
theorem mv1 : fofs Try.prog 92 1 = some (1, 1) := by kernel_rfl
theorem mv2 : fofs Try.prog 92 2 = some (2, 1) := by kernel_rfl
theorem mv3 : fofs Try.prog 92 3 = some (3, 1) := by kernel_rfl
theorem und93 : Try.prog.underlying 93 = some (.int .u64) := by kernel_rfl
theorem opens_Moves : Opens Try.prog 85 Moves :=
  opens_row und85 (by kernel_rfl) (opens_struct Try.underlying92 (by kernel_rfl)
    (opensF_cons rfl (by kernel_rfl) (by decide) (opens_int und3) (opensF_cons rfl (by kernel_rfl) (by decide) (opens_int und3) (opensF_cons rfl (by kernel_rfl) (by decide) (opens_int und3) (opensF_cons rfl (by kernel_rfl) (by decide) (opens_string und9) opensF_nil)))))
/-- How far a road is behind k moves. -/
structure St (w0 w : World) (r gn k : Nat) (R : RoadV) : Prop where
  mem : RoadM w0 w R
  ok : RoadOk R
  r : R.r = r
  gn : R.gn = gn
  size : R.l.length + ((R.s.S false).length + (R.s.S true).length) ≤ 20 * k
  last : R.last ≤ 20 * k
  sent : ∀ i, (R.s.S i).length ≤ k
theorem St.more {w0 w : World} {r gn k k' : Nat} {R : RoadV} (h : St w0 w r gn k R) (hk : k ≤ k') : St w0 w r gn k' R :=
  ⟨h.mem, h.ok, h.r, h.gn, by have := h.size; omega, by have := h.last; omega, fun i => by have := h.sent i; omega⟩
theorem St.below {w0 w w' : World} {r gn k : Nat} {R : RoadV} (h : St w0 w r gn k R) (hb : Below w.heap.size w w') : St w0 w' r gn k R :=
  ⟨(RoadM.gm h.mem).below hb |>.road, h.ok, h.r, h.gn, h.size, h.last, h.sent⟩
end Go.Proofs.Ythicbfopjakiiaa.E
namespace Go.Proofs.Ythicbfopjakiiaa.E
open Go Go.RowKit
set_option linter.unusedSimpArgs false
set_option linter.unusedVariables false
open Roads (up)

def noRs : Roads.Rs ByteArray := ⟨fun _ => [], fun _ => [], fun _ => 0, fun _ => []⟩
def newRoad (r gn : Nat) (g : Bool → Nat) : RoadV := ⟨r, gn, g, fun _ => .slice none 0 0, fun _ => .slice none 0 0, noRs, 0, []⟩
theorem road_new {w1 w2 w3 w4 w5 : World} {r gn g1 g2 : Nat} {cn : Nat → Nat} (h1 : EndAt w1.heap.size w2 g1 0 0 []) (b1 : Below w1.heap.size w1 w2) (h2 : EndAt w2.heap.size w3 g2 0 0 []) (b2 : Below w2.heap.size w2 w3)
    (hc : ∀ k, k < w3.heap.size → cn k = 0) (h3 : NetC cn w4 gn 0 []) (b3 : Below w3.heap.size w3 w4) (h4 : Blk w5 r 90 (newRoad r gn (fun i => if i then g2 else g1)).cells) (hr : w4.heap.size ≤ r) (b4 : Below w4.heap.size w4 w5) :
    St w1 w5 r gn 0 (newRoad r gn (fun i => if i then g2 else g1)) := by
  obtain ⟨c1, back1⟩ := (Mem.nil w1).make
  have m1 := back1 (endO 2 g1 0 0 [] (by decide)) w2 ⟨col c1 w1.heap.size 2, col_lt _ _ _, (EndF.of h1).mono fun k hk => col_ge _ _ _ hk, b1⟩
  obtain ⟨c2, back2⟩ := m1.make
  have m2 := back2 (endO 3 g2 0 0 [] (by decide)) w3 ⟨col c2 w2.heap.size 3, col_lt _ _ _, (EndF.of h2).mono fun k hk => col_ge _ _ _ hk, b2⟩
  obtain ⟨c3, back3⟩ := m2.make
  have m3 := back3 (netO 8 gn 0 [] (by decide)) w4 ⟨col c3 w3.heap.size 8, col_lt _ _ _, ⟨cn, fun k _ hne => col_ge _ _ _ (Nat.le_of_not_lt fun hlt => hne (hc k hlt)), h3⟩, b3⟩
  obtain ⟨c4, back4⟩ := m3.make
  have m4 := back4 (blkO 1 r 90 _ (by decide)) w5 ⟨col c4 w4.heap.size 1, col_lt _ _ _, ⟨col_ge _ _ _ hr, h4⟩, b4⟩
  have row : ∀ {L : List Thg} (hu : Nat) (hp : 0 < hu), Mem w1 w5 L → Mem w1 w5 (L ++ [rowO hu 9 (.slice none 0 0) [] hp]) := fun {L} hu hp m => by
    obtain ⟨c, back⟩ := m.make
    exact back _ w5 ⟨c, fun _ _ => rfl, ⟨InC.nil _ _ _ _, Own.nil 9 w5⟩, Below.refl _ _⟩
  have m8 := row 7 (by decide) (row 6 (by decide) (row 5 (by decide) (row 4 (by decide) m4)))
  refine ⟨m8.sub fun x hx => ?_, ⟨⟨fun i => ⟨Nat.le_refl _, rfl, Nat.le_refl _, rfl, Nat.le_refl _⟩, by simp [newRoad]⟩, by simp [newRoad], by simp [newRoad], by simp [newRoad], fun i => Nat.zero_le _, fun i b hb => by cases hb⟩, rfl, rfl, Nat.le_refl _, Nat.le_refl _, fun i => Nat.le_refl _⟩
  simp only [RoadV.objs, List.mem_cons, List.not_mem_nil, or_false] at hx
  simp only [List.mem_append, List.mem_cons, List.not_mem_nil, or_false, false_or]
  rcases hx with e | e | e | e | e | e | e | e <;> rw [e]
  · exact .inl (.inl (.inl (.inl (.inr rfl))))
  · exact .inl (.inl (.inl (.inl (.inl (.inl (.inl rfl))))))
  · exact .inl (.inl (.inl (.inl (.inl (.inl (.inr rfl))))))
  · exact .inl (.inl (.inl (.inr rfl)))
  · exact .inl (.inl (.inr rfl))
  · exact .inl (.inr rfl)
  · exact .inr rfl
  · exact .inl (.inl (.inl (.inl (.inl (.inr rfl)))))
theorem sent_len (f : Bool → List ByteArray) (i : Bool) (b : ByteArray) : (fun j => (up f i (f i ++ [b]) j).length) = up (fun j => (f j).length) i ((f i).length + 1) := funext fun j => by
  unfold Roads.up
  split <;> simp
end Go.Proofs.Ythicbfopjakiiaa.E
