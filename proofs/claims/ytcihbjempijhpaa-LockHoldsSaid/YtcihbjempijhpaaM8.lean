import Derived.Test.YtcihbjempijhpaaM7
import Derived.Test.YtcihbjempijhpaaS2
import Derived.Test.YtcihbjempijhpaaM3
import Derived.Test.YtcihbjempijhpaaLayKeys
/- The least form and what is left, as functions; how long they are. Plain Lean. -/
namespace Go.Proofs.Ytcihbjempijhpaa.E
set_option linter.unusedSimpArgs false
set_option linter.unusedVariables false

/-- The least form. -/
def lst (l : List Rg) : List Rg := formP (placesP l) ((placesP l).map fun t => decide (inL l t)) (placesP l).length
theorem lst_spec (l : List Rg) : IsLeast l (lst l) := by
  obtain ⟨q1, q2⟩ := form_map (places_asc l) (places_head l) (fun t => decide (inL l t)) (fun i hi s hcell => by rw [decide_eq_decide]; exact in_const (places_asc l) (places_ends l) hi hcell)
  exact ⟨q1, fun s => (q2 s).trans (by rw [decide_eq_true_eq])⟩
theorem IsLeast.eq {l out : List Rg} (h : IsLeast l out) : out = lst l := h.one (lst_spec l)
/-- What is left. -/
def mns (l : List Rg) (r : Rg) : List Rg := formP (placesP (l ++ [r])) ((placesP (l ++ [r])).map fun t => decide (inL l t ∧ ¬ hasR r t)) (placesP (l ++ [r])).length
theorem mns_spec (l : List Rg) (r : Rg) : IsMinus l r (mns l r) := by
  obtain ⟨hends, hr1, hr2⟩ := ends_l (l := l) (r := r)
  obtain ⟨q1, q2⟩ := form_map (places_asc (l ++ [r])) (places_head (l ++ [r])) (fun t => decide (inL l t ∧ ¬ hasR r t)) (fun i hi s hcell => by
    rw [decide_eq_decide, in_const (places_asc _) hends hi hcell, has_const (places_asc _) hr1 hr2 hi hcell])
  exact ⟨q1, fun s => (q2 s).trans (by rw [decide_eq_true_eq])⟩
theorem IsMinus.eq {l out : List Rg} {r : Rg} (h : IsMinus l r out) : out = mns l r := h.one (mns_spec l r)
theorem lst_canon {l : List Rg} (h : Canon l) : lst l = l := (IsLeast.eq (l := l) ⟨h, fun _ => Iff.rfl⟩).symm
theorem foldl_merge_len : ∀ (l out : List Rg), (l.foldl mergeStep out).length ≤ out.length + l.length
  | [], out => by simp
  | r :: l, out => by
    have h1 := foldl_merge_len l (mergeStep out r)
    have h2 := mergeStep_len out r
    rw [List.foldl_cons, List.length_cons]; omega
theorem lst_len (l : List Rg) : (lst l).length ≤ l.length := by
  have hp := List.mergeSort_perm (l.filter fun r => decide (¬ emptyR r)) (fun a b => !decide (b.1 < a.1))
  have hs := List.pairwise_mergeSort (le := fun a b : Rg => !decide (b.1 < a.1)) (fun a b c h1 h2 => by
    simp only [Bool.not_eq_true', decide_eq_false_iff_not] at *; grind) (fun a b => by
    simp only [Bool.or_eq_true, Bool.not_eq_true', decide_eq_false_iff_not]; grind) (l.filter fun r => decide (¬ emptyR r))
  have hs' := hs.imp (S := fun a b : Rg => ¬ b.1 < a.1) (fun h => by simpa using h)
  rw [← (least_of hp hs').eq]
  have h1 := foldl_merge_len ((l.filter fun r => decide (¬ emptyR r)).mergeSort fun a b => !decide (b.1 < a.1)) []
  have h2 := hp.length_eq
  have h3 : (l.filter fun r => decide (¬ emptyR r)).length ≤ l.length := List.length_filter_le _ _
  rw [List.length_nil] at h1
  omega
theorem lst_ne {l : List Rg} {r : Rg} (hr : r ∈ l) (he : ¬ emptyR r) : lst l ≠ [] := fun e => by
  have := ((lst_spec l).2 r.1).2 ⟨r, hr, has_lo he⟩
  rw [e] at this
  exact inL_nil _ this
theorem tA_low {x r m : Rg} (h : m ∈ tA x r) : x.1 < r.1 := by
  unfold tA at h
  split at h
  · obtain ⟨h1, _, h3⟩ := meetP_some (by simpa using h)
    have h4 := (h3 m.1).1 (has_lo h1)
    unfold hasR at h4
    simp only at h4
    grind
  · simp at h
theorem tB_high {x r m : Rg} (h : m ∈ tB' x r) : r.2 ≠ [] ∧ (x.2 = [] ∨ r.2 < x.2) := by
  unfold tB' at h
  split at h
  · rename_i hr
    obtain ⟨h1, _, h3⟩ := meetP_some (by simpa using h)
    have h4 := (h3 m.1).1 (has_lo h1)
    unfold hasR at h4
    simp only at h4
    grind
  · simp at h
theorem lefts_low {r : Rg} : ∀ {l : List Rg}, (∀ y ∈ l, ¬ y.1 < r.1) → (l.flatMap fun x => leftP x r).length ≤ l.length
  | [], _ => by simp
  | x :: l, h => by
    have ih := lefts_low (l := l) fun y hy => h y (by simp [hy])
    have ha : tA x r = [] := List.eq_nil_iff_forall_not_mem.2 fun m hm => h x (by simp) (tA_low hm)
    have hb := tB_len x r
    rw [List.flatMap_cons, List.length_append, left_two, ha, List.nil_append, List.length_cons]
    omega
theorem lefts_len1 {r : Rg} (hr : ¬ emptyR r) : ∀ {l : List Rg}, Canon l → (l.flatMap fun x => leftP x r).length ≤ l.length + 1
  | [], _ => by simp
  | x :: l, h => by
    have ih := lefts_len1 hr h.tail
    have hx := h.1 x (by simp)
    have hg := (List.pairwise_cons.1 h.2).1
    have la := tA_len x r
    have lb := tB_len x r
    rw [List.flatMap_cons, List.length_append, left_two, List.length_append, List.length_cons]
    by_cases h1 : tA x r = []
    · rw [h1, List.length_nil]; omega
    · by_cases h2 : tB' x r = []
      · rw [h2, List.length_nil]; omega
      · obtain ⟨m, hm⟩ := List.exists_mem_of_ne_nil _ h2
        obtain ⟨q1, q2⟩ := tB_high hm
        have := lefts_low (r := r) (l := l) fun y hy => by
          have h3 := hg y hy
          unfold gapR at h3
          unfold emptyR at hr
          grind
        omega
theorem mns_len {l : List Rg} (h : Canon l) (r : Rg) : (mns l r).length ≤ l.length + 1 := by
  by_cases he : emptyR r
  · have : IsMinus l r l := ⟨h, fun s => ⟨fun e => ⟨e, has_empty he s⟩, fun e => e.1⟩⟩
    rw [← this.eq]; omega
  · have : IsMinus l r (l.flatMap fun x => leftP x r) := minus_of ⟨h, fun _ => Iff.rfl⟩ he
    rw [← this.eq]
    exact lefts_len1 he h
/-! ### locks, told without memory: of a number its ranges, and for how many ticks they are held still -/
abbrev LkV := Int → Option (List Rg × Int)
def LkOk (n : Nat) (le : Int) (V : LkV) : Prop := ∀ id L left, V id = some (L, left) → 0 < id ∧ Canon L ∧ L ≠ [] ∧ L.length ≤ n ∧ 1 ≤ left ∧ left ≤ le
def takeV (le : Int) (V : LkV) (id : Int) (r : Rg) : LkV := if id < 1 ∨ emptyR r then V else fun j => if j = id then some (lst (((V id).map (·.1)).getD [] ++ [r]), le) else V j
def takeE (id : Int) (r : Rg) : Int := if id < 1 ∨ emptyR r then 1 else 0
def renewV (le : Int) (V : LkV) (id : Int) : LkV := fun j => if j = id then (V id).map fun p => (p.1, le) else V j
def freeV (V : LkV) (id : Int) : LkV := fun j => if j = id then none else V j
def sweepF (p : List Rg × Int) : Option (List Rg × Int) := if p.2 = 0 ∨ p.1 = [] then none else some p
def tickV (V : LkV) : LkV := fun j => (V j).bind fun p => sweepF (p.1, p.2 - 1)
def loseV (V : LkV) (r : Rg) : LkV := fun j => (V j).bind fun p => sweepF (mns p.1 r, p.2)
def blocksV (V : LkV) (s : Txt) : Prop := ∃ id L left, V id = some (L, left) ∧ inL L s
def holdsV (V : LkV) (id : Int) (r : Rg) : Prop := ∃ L left, V id = some (L, left) ∧ ∀ s, hasR r s → inL L s
theorem LkOk.mono {n m : Nat} {le : Int} {V : LkV} (h : LkOk n le V) (hm : n ≤ m) : LkOk m le V := fun id L left e => by
  obtain ⟨h1, h2, h3, h4, h5⟩ := h id L left e
  exact ⟨h1, h2, h3, by omega, h5⟩
theorem ok_take {n : Nat} {le : Int} {V : LkV} (h : LkOk n le V) (hle : 1 ≤ le) (id : Int) (r : Rg) : LkOk (n + 1) le (takeV le V id r) := by
  unfold takeV
  split
  · exact h.mono (by omega)
  · rename_i hc
    intro j L left e
    simp only at e
    split at e
    · rename_i hj
      simp only [Option.some.injEq, Prod.mk.injEq] at e
      obtain ⟨rfl, rfl⟩ := e
      have hle2 : (((V id).map (·.1)).getD []).length ≤ n ∧ Canon (((V id).map (·.1)).getD []) := by
        cases hv : V id with
        | none => exact ⟨by simp, by simp [Canon]⟩
        | some p =>
          obtain ⟨_, h2, _, h4, _⟩ := h id p.1 p.2 hv
          exact ⟨h4, h2⟩
      have hll := lst_len (((V id).map (·.1)).getD [] ++ [r])
      rw [List.length_append, List.length_cons, List.length_nil] at hll
      exact ⟨by omega, (lst_spec _).1, lst_ne (r := r) (by simp) (fun e => hc (.inr e)), by omega, hle, Int.le_refl _⟩
    · obtain ⟨h1, h2, h3, h4, h5⟩ := h j L left e
      exact ⟨h1, h2, h3, by omega, h5⟩
theorem ok_renew {n : Nat} {le : Int} {V : LkV} (h : LkOk n le V) (hle : 1 ≤ le) (id : Int) : LkOk n le (renewV le V id) := by
  intro j L left e
  unfold renewV at e
  split at e
  · rename_i hj
    subst hj
    obtain ⟨p, hp, he⟩ := Option.map_eq_some_iff.1 e
    obtain ⟨rfl, rfl⟩ := Prod.mk.injEq .. ▸ he
    obtain ⟨h1, h2, h3, h4, _⟩ := h j p.1 p.2 hp
    exact ⟨h1, h2, h3, h4, hle, Int.le_refl _⟩
  · exact h j L left e
theorem ok_free {n : Nat} {le : Int} {V : LkV} (h : LkOk n le V) (id : Int) : LkOk n le (freeV V id) := by
  intro j L left e
  unfold freeV at e
  split at e
  · cases e
  · exact h j L left e
theorem sweep_some {p q : List Rg × Int} (h : sweepF p = some q) : q = p ∧ p.2 ≠ 0 ∧ p.1 ≠ [] := by
  unfold sweepF at h
  split at h
  · cases h
  · rename_i hc
    simp only [Option.some.injEq] at h
    exact ⟨h.symm, fun e => hc (.inl e), fun e => hc (.inr e)⟩
theorem ok_tick {n : Nat} {le : Int} {V : LkV} (h : LkOk n le V) : LkOk n le (tickV V) := by
  intro j L left e
  obtain ⟨p, hp, he⟩ := Option.bind_eq_some_iff.1 e
  obtain ⟨hq, h0, _⟩ := sweep_some he
  cases hq
  obtain ⟨h1, h2, h3, h4, h5, h6⟩ := h j p.1 p.2 hp
  simp only at h0
  exact ⟨h1, h2, h3, h4, by omega, by omega⟩
theorem ok_lose {n : Nat} {le : Int} {V : LkV} (h : LkOk n le V) (r : Rg) : LkOk (n + 1) le (loseV V r) := by
  intro j L left e
  obtain ⟨p, hp, he⟩ := Option.bind_eq_some_iff.1 e
  obtain ⟨hq, h0, hne⟩ := sweep_some he
  cases hq
  obtain ⟨h1, h2, h3, h4, h5, h6⟩ := h j p.1 p.2 hp
  have := mns_len h2 r
  exact ⟨h1, (mns_spec _ _).1, hne, by omega, h5, h6⟩
end Go.Proofs.Ytcihbjempijhpaa.E
/- The table of locks: in memory; New, Renew, Free, Holds, Ranges. -/
namespace Go.Proofs.Ytcihbjempijhpaa.E
open Go Go.RowKit
set_option linter.unusedSimpArgs false
set_option linter.unusedVariables false

theorem und41 : Try.prog.underlying 41 = some (.pointer 72) := by kernel_rfl
theorem und70 : Try.prog.underlying 70 = some (.map 3 73) := by kernel_rfl
theorem und73 : Try.prog.underlying 73 = some (.pointer 75) := by kernel_rfl
theorem one26 : oneB Try.prog 26 = true := by kernel_rfl
theorem one70 : oneB Try.prog 70 = true := by kernel_rfl
theorem one3' : oneB Try.prog 3 = true := by kernel_rfl
theorem sz3' : (Try.prog.info? 3).map (·.size) = some 1 := by kernel_rfl
theorem sz26 : (Try.prog.info? 26).map (·.size) = some 1 := by kernel_rfl
theorem z73 : (Try.prog.info? 73).bind (·.zero) = some (.pointer none) := by kernel_rfl
theorem t0 : fofs Try.prog 72 0 = some (0, 1) := by kernel_rfl
theorem t1 : fofs Try.prog 72 1 = some (1, 1) := by kernel_rfl
theorem k0 : fofs Try.prog 75 0 = some (0, 1) := by kernel_rfl
theorem k1 : fofs Try.prog 75 1 = some (1, 1) := by kernel_rfl
structure Hd where
  gh : Nat
  v : Value
  L : List Rg
  left : Int
def Hd.abs (H : Hd) : List Rg × Int := (H.L, H.left)
def Hd.ptr (H : Hd) : Value := .pointer (some ⟨H.gh, 0, none⟩)
structure HdAt (c : Nat → Nat) (x : Nat) (w : World) (H : Hd) : Prop where
  hue : c H.gh = x
  blk : Blk w H.gh 75 #[H.v, .int .i64 H.left]
  own : w.ownsRow 0 23 2 H.v H.L.length (H.L.flatMap rgF)
  huev : InC c x H.v
/-- The colour of a lock's objects. -/
def hueC (hu : Nat) (id : Int) : Nat := (id.toNat + 1) * 1000 + hu
/-- The blocks of a table's colours. -/
def Dh (hu : Nat) (c : Nat → Nat) : Nat → Prop := fun k => c k % 1000 = hu
theorem hueC_mod {hu : Nat} (h : hu < 1000) (id : Int) : hueC hu id % 1000 = hu := by unfold hueC; omega
theorem hueC_ne (hu : Nat) (id : Int) : hueC hu id ≠ hu := by unfold hueC; omega
theorem hueC_inj {hu : Nat} {a b : Int} (ha : 0 ≤ a) (hb : 0 ≤ b) (h : hueC hu a = hueC hu b) : a = b := by unfold hueC at h; omega
theorem Turns.stepH {hu : Nat} {c c1 : Nat → Nat} {w w1 w2 : World} (h : Turns (Dh hu c) w w1) (hc : ∀ k, k < w.heap.size → c1 k = c k) (k : Turns (Dh hu c1) w1 w2) : Turns (Dh hu c) w w2 :=
  h.trans (k.mono fun j _ hj => by
    rcases Nat.lt_or_ge j w.heap.size with hlt | hge
    · exact .inl (by rw [Dh, ← hc j hlt]; exact hj)
    · exact .inr hge)
structure LkAt (hu : Nat) (c : Nat → Nat) (w : World) (g bm : Nat) (le : Int) (T : List (Int × Hd)) : Prop where
  hh : 0 < hu ∧ hu < 1000
  hue : c g = hu
  huem : c bm = hu
  blk : Blk w g 72 #[.int .i64 le, .map (some bm)]
  map : MapI w bm (T.map fun p => (p.1, p.2.ptr))
  el : ∀ p ∈ T, 0 ≤ p.1 ∧ HdAt c (hueC hu p.1) w p.2
def absT (T : List (Int × Hd)) : LkV := fun id => (getK id T).map Hd.abs
def LkS (hu : Nat) (c : Nat → Nat) (w : World) (g : Nat) (le : Int) (n : Nat) (V : LkV) : Prop := ∃ bm T, LkAt hu c w g bm le T ∧ absT T = V ∧ T.length ≤ n
/-- What a call leaves: the table, and that nothing else has turned. -/
def LeftL (hu : Nat) (c : Nat → Nat) (w : World) (g : Nat) (le : Int) (n : Nat) (V : LkV) (w' : World) : Prop := ∃ c', (∀ k, k < w.heap.size → c' k = c k) ∧ LkS hu c' w' g le n V ∧ Turns (Dh hu c) w w'
section
variable {hu : Nat} {c c' : Nat → Nat} {x : Nat} {w w' : World} {H : Hd} {g bm : Nat} {le : Int} {T : List (Int × Hd)} {n : Nat} {V : LkV}
theorem HdAt.rd (h : HdAt c x w H) : RgR w [H.v] H.L := (OwnR.of_own h.own).rd rgF_len fun _ _ => rfl
theorem HdAt.one (h : HdAt c x w H) : H.v.oneCell' = true := by
  rcases h.own.2 with ⟨e, _⟩ | ⟨g3, c3, _, e, _⟩ <;> rw [e] <;> rfl
theorem HdAt.vlt (h : HdAt c x w H) {k : Nat} (hk : H.v.ownBlock = some k) : k < w.heap.size := ownsRow_lt h.own hk
theorem HdAt.turns {F : Nat → Prop} (h : HdAt c x w H) (hT : Turns F w w') (hF : ∀ k, F k → c k ≠ x) : HdAt c x w' H :=
  ⟨h.hue, h.blk.turns hT (fun e => hF _ e h.hue), ownsRow_turns h.own hT (fun k hk e => hF k e (h.huev k hk)), h.huev⟩
theorem HdAt.below (h : HdAt c x w H) (hb : Below w.heap.size w w') : HdAt c x w' H := h.turns (F := fun _ => False) (Turns.of_below hb) fun _ h => h.elim
theorem HdAt.re (h : HdAt c x w H) (hc : ∀ k, k < w.heap.size → c' k = c k) : HdAt c' x w H :=
  ⟨(hc _ h.blk.lt).trans h.hue, h.blk, h.own, fun k hk => (hc k (h.vlt hk)).trans (h.huev k hk)⟩
theorem LkAt.turns {F : Nat → Prop} (h : LkAt hu c w g bm le T) (hT : Turns F w w') (hF : ∀ k, F k → c k % 1000 ≠ hu) : LkAt hu c w' g bm le T :=
  ⟨h.hh, h.hue, h.huem, h.blk.turns hT (fun e => by have := hF g e; rw [h.hue, Nat.mod_eq_of_lt h.hh.2] at this; exact this rfl), h.map.turns hT (fun e => by have := hF bm e; rw [h.huem, Nat.mod_eq_of_lt h.hh.2] at this; exact this rfl),
    fun p hp => ⟨(h.el p hp).1, (h.el p hp).2.turns hT (fun k hk e => hF k hk (by rw [e, hueC_mod h.hh.2]))⟩⟩
theorem LkAt.below (h : LkAt hu c w g bm le T) (hb : Below w.heap.size w w') : LkAt hu c w' g bm le T := h.turns (F := fun _ => False) (Turns.of_below hb) (fun _ h => h.elim)
theorem LkAt.re (h : LkAt hu c w g bm le T) (hc : ∀ k, k < w.heap.size → c' k = c k) : LkAt hu c' w g bm le T :=
  ⟨h.hh, (hc g h.blk.lt).trans h.hue, (hc bm h.map.lt).trans h.huem, h.blk, h.map, fun p hp => ⟨(h.el p hp).1, (h.el p hp).2.re hc⟩⟩
theorem LkAt.nodup (h : LkAt hu c w g bm le T) : (T.map (·.1)).Nodup := nodup_map Hd.ptr h.map.nodup
theorem LkAt.ne (h : LkAt hu c w g bm le T) : g ≠ bm := map_ne h.blk h.map
theorem LkS.turns {F : Nat → Prop} (h : LkS hu c w g le n V) (hT : Turns F w w') (hF : ∀ k, F k → c k % 1000 ≠ hu) : LkS hu c w' g le n V := by
  obtain ⟨b, T, h, q⟩ := h; exact ⟨b, T, h.turns hT hF, q⟩
theorem LkS.below (h : LkS hu c w g le n V) (hb : Below w.heap.size w w') : LkS hu c w' g le n V := by
  obtain ⟨b, T, h, q⟩ := h; exact ⟨b, T, h.below hb, q⟩
theorem LkS.re (h : LkS hu c w g le n V) (hc : ∀ k, k < w.heap.size → c' k = c k) : LkS hu c' w g le n V := by
  obtain ⟨b, T, h, q⟩ := h; exact ⟨b, T, h.re hc, q⟩
theorem LkS.mono {m : Nat} (h : LkS hu c w g le n V) (hm : n ≤ m) : LkS hu c w g le m V := by
  obtain ⟨b, T, h, q1, q2⟩ := h; exact ⟨b, T, h, q1, by omega⟩
theorem LkS.lt (h : LkS hu c w g le n V) : g < w.heap.size ∧ c g = hu := by
  obtain ⟨b, T, h, _⟩ := h; exact ⟨h.blk.lt, h.hue⟩
theorem getK_ptr (id : Int) (T : List (Int × Hd)) : (getK id (T.map fun p => (p.1, p.2.ptr))).getD (.pointer none) = ((getK id T).map Hd.ptr).getD (.pointer none) := by rw [getK_map Hd.ptr]
/-- One lock's object changed. -/
theorem LkAt.put (h : LkAt hu c w g bm le T) (hc : ∀ k, k < w.heap.size → c' k = c k) {id : Int} {H0 H1 : Hd} (hg : getK id T = some H0) (hp : H1.gh = H0.gh) {F : Nat → Prop} (hT : Turns F w w') (hF : ∀ k, k < w.heap.size → F k → c k = hueC hu id)
    (h1 : HdAt c' (hueC hu id) w' H1) : LkAt hu c' w' g bm le (setK id H1 T) ∧ absT (setK id H1 T) = (fun j => if j = id then some H1.abs else absT T j) ∧ (setK id H1 T).length = T.length := by
  have hid := (h.el _ (getK_mem _ _ _ hg)).1
  have hT' : Turns (fun k => F k ∧ k < w.heap.size) w w' := hT.cut
  have hr := h.re hc
  refine ⟨⟨h.hh, hr.hue, hr.huem, h.blk.turns hT' (fun e => ?_), ?_, fun p hp => ?_⟩, ?_, setK_len_eq _ _ hg⟩
  · have := hF _ e.2 e.1
    rw [h.hue] at this
    exact hueC_ne hu id this.symm
  · rw [setK_same Hd.ptr (v0 := H0) (by unfold Hd.ptr; rw [hp]) hg]
    refine h.map.turns hT' (fun e => ?_)
    have := hF _ e.2 e.1
    rw [h.huem] at this
    exact hueC_ne hu id this.symm
  · rcases setK_mem' h.nodup hp with rfl | ⟨hm, hne⟩
    · exact ⟨hid, h1⟩
    · refine ⟨(h.el p hm).1, (hr.el p hm).2.turns hT' (fun k hk e => hne ?_)⟩
      have := hF _ hk.2 hk.1
      rw [hc k hk.2, this] at e
      exact (hueC_inj hid (h.el p hm).1 e).symm
  · funext j
    unfold absT
    rw [getK_setK]
    split <;> rfl
end
theorem New27 (hu : Nat) (hh : 0 < hu ∧ hu < 1000) (c : Nat → Nat) (a : Int) (w : World) : CallP Try.prog 27 #[.int .i64 a] (fun r w' => ∃ g c', r = .pointer (some ⟨g, 0, none⟩) ∧ (∀ k, k < w.heap.size → c' k = c k) ∧ LkS hu c' w' g (max a 1) 0 (fun _ => none) ∧ Below w.heap.size w w') w := by
  refine ⟨S27.calls _ _ _ ?_⟩
  unfold S27
  refine mxI ?_
  refine mkm ?_
  intro w1 hm1 hb1
  refine bd (cells := #[.int .i64 (max a 1), .map (some w.heap.size)]) (by kernel_rfl) ?_
  refine bxB ?_
  intro g w2 hg hB2 h2
  have hsz := hb1.size
  exact ⟨g, col c w.heap.size hu, rfl, col_lt _ _ _, ⟨w.heap.size, [], ⟨hh, col_ge _ _ _ (by omega), col_ge _ _ _ (Nat.le_refl _), hB2, hm1.below h2, fun x hx => by simp at hx⟩, rfl, Nat.le_refl _⟩, below_then hb1 h2⟩
theorem Renew54 {hu : Nat} {c : Nat → Nat} {w : World} {g n : Nat} {le : Int} {V : LkV} (id : Int) (h : LkS hu c w g le n V) :
    CallP Try.prog 54 #[.pointer (some ⟨g, 0, none⟩), .int .i64 id] (fun r w' => r = .bool (V id).isSome ∧ LeftL hu c w g le n (renewV le V id) w') w := by
  obtain ⟨bm, T, h, rfl, hTl⟩ := h
  refine ⟨S54.calls _ _ _ _ ?_⟩
  unfold S54
  have c0 : w.cell? ⟨g, 0, none⟩ = some (.int .i64 le) := h.blk.cell 0
  have c1 : w.cell? ⟨g, 1, none⟩ = some (.map (some bm)) := h.blk.cell 1
  (repeat with_reducible first | refine fd t1 (by decide) ?_ | refine ld one70 c1 ?_ | refine nck ?_ | refine cdT ?_ | refine cdF ?_ | refine gdY ?_ | refine gdFT ?_ | refine gdTF ?_ | refine gdU ?_ | refine gaY ?_ | refine gaFT ?_ | refine gaTF ?_ | refine pickT ?_ | refine pickF ?_ | refine bi_lss_t (by omega) ?_ | refine bi_lss_f (by omega) ?_ | refine bi_add64 (by omega) ?_ | refine bi_sub64 (by omega) ?_ | refine bi_eql_t (by omega) ?_ | refine bi_eql_f (by omega) ?_ | refine bi_neq_t (by omega) ?_ | refine bi_neq_f (by omega) ?_ | refine bi_gtr_t (by omega) ?_ | refine bi_gtr_f (by omega) ?_ | refine bi_leq_t (by omega) ?_ | refine bi_leq_f (by omega) ?_ | refine bi_geq_t (by omega) ?_ | refine bi_geq_f (by omega) ?_ | refine bi_xt0 ?_ | refine bi_xt1 ?_ | refine bi_xt2 ?_ | refine bi_xt3 ?_ | refine bi_T ?_ | refine bi_F ?_ | refine bi_not ?_ | refine bi_and ?_ | refine bi_or ?_ | refine bi_xor ?_ | refine bi_shr (by omega) (by decide) ?_ | refine bi_shl (by omega) (by decide) ?_ | refine bi_quo64 (by omega) ?_ | refine bi_rem64 (by omega) ?_ | refine bi_mul64 (by omega) ?_ | refine bi_neg ?_ | refine bi_un_xor32 ?_ | refine bi_add ?_ | refine bi_sub ?_ | refine bi_mul ?_ | refine bi_quo (by decide) ?_ | refine bi_rem (by decide) ?_)
  refine lkq und70 und3 z73 h.map ?_
  rw [getK_ptr]
  cases hx : getK id T with
  | none =>
    simp only [Option.map_none, Option.getD_none]
    refine ofPR (pr_pnil und73) ?_
    simp only [Option.isNone_none]
    (repeat with_reducible first | refine nck ?_ | refine cdT ?_ | refine cdF ?_ | refine gdY ?_ | refine gdFT ?_ | refine gdTF ?_ | refine gdU ?_ | refine gaY ?_ | refine gaFT ?_ | refine gaTF ?_ | refine pickT ?_ | refine pickF ?_ | refine bi_lss_t (by omega) ?_ | refine bi_lss_f (by omega) ?_ | refine bi_add64 (by omega) ?_ | refine bi_sub64 (by omega) ?_ | refine bi_eql_t (by omega) ?_ | refine bi_eql_f (by omega) ?_ | refine bi_neq_t (by omega) ?_ | refine bi_neq_f (by omega) ?_ | refine bi_gtr_t (by omega) ?_ | refine bi_gtr_f (by omega) ?_ | refine bi_leq_t (by omega) ?_ | refine bi_leq_f (by omega) ?_ | refine bi_geq_t (by omega) ?_ | refine bi_geq_f (by omega) ?_ | refine bi_xt0 ?_ | refine bi_xt1 ?_ | refine bi_xt2 ?_ | refine bi_xt3 ?_ | refine bi_T ?_ | refine bi_F ?_ | refine bi_not ?_ | refine bi_and ?_ | refine bi_or ?_ | refine bi_xor ?_ | refine bi_shr (by omega) (by decide) ?_ | refine bi_shl (by omega) (by decide) ?_ | refine bi_quo64 (by omega) ?_ | refine bi_rem64 (by omega) ?_ | refine bi_mul64 (by omega) ?_ | refine bi_neg ?_ | refine bi_un_xor32 ?_ | refine bi_add ?_ | refine bi_sub ?_ | refine bi_mul ?_ | refine bi_quo (by decide) ?_ | refine bi_rem (by decide) ?_)
    refine ⟨by rw [absT, hx]; rfl, c, fun _ _ => rfl, ⟨bm, T, h, ?_, hTl⟩, Turns.refl _ _⟩
    funext j
    unfold renewV absT
    split
    · rename_i e; subst e; rw [hx]; rfl
    · rfl
  | some H =>
    simp only [Option.map_some, Option.getD_some, Hd.ptr]
    refine ofPR (pr_pnil und73) ?_
    simp only [Option.isNone_some]
    obtain ⟨hid, hH⟩ := h.el _ (getK_mem _ _ _ hx)
    (repeat with_reducible first | refine fd t0 (by decide) ?_ | refine ld one3' c0 ?_ | refine fd k1 (by decide) ?_ | refine nck ?_ | refine cdT ?_ | refine cdF ?_ | refine gdY ?_ | refine gdFT ?_ | refine gdTF ?_ | refine gdU ?_ | refine gaY ?_ | refine gaFT ?_ | refine gaTF ?_ | refine pickT ?_ | refine pickF ?_ | refine bi_lss_t (by omega) ?_ | refine bi_lss_f (by omega) ?_ | refine bi_add64 (by omega) ?_ | refine bi_sub64 (by omega) ?_ | refine bi_eql_t (by omega) ?_ | refine bi_eql_f (by omega) ?_ | refine bi_neq_t (by omega) ?_ | refine bi_neq_f (by omega) ?_ | refine bi_gtr_t (by omega) ?_ | refine bi_gtr_f (by omega) ?_ | refine bi_leq_t (by omega) ?_ | refine bi_leq_f (by omega) ?_ | refine bi_geq_t (by omega) ?_ | refine bi_geq_f (by omega) ?_ | refine bi_xt0 ?_ | refine bi_xt1 ?_ | refine bi_xt2 ?_ | refine bi_xt3 ?_ | refine bi_T ?_ | refine bi_F ?_ | refine bi_not ?_ | refine bi_and ?_ | refine bi_or ?_ | refine bi_xor ?_ | refine bi_shr (by omega) (by decide) ?_ | refine bi_shl (by omega) (by decide) ?_ | refine bi_quo64 (by omega) ?_ | refine bi_rem64 (by omega) ?_ | refine bi_mul64 (by omega) ?_ | refine bi_neg ?_ | refine bi_un_xor32 ?_ | refine bi_add ?_ | refine bi_sub ?_ | refine bi_mul ?_ | refine bi_quo (by decide) ?_ | refine bi_rem (by decide) ?_)
    refine st sz3' rfl (by rw [hH.blk.cell 1]; rfl) (hH.blk.frozen 1) ?_
    have hT := Turns.setCell (F := fun k => k = H.gh) (p := ⟨H.gh, 1, none⟩) (Turns.refl _ w) (.inl rfl) (.int .i64 le)
    have hB := hH.blk.set_ 1 (.int .i64 le)
    have hne : ∀ k, H.v.ownBlock = some k → k ≠ H.gh := fun k hk e => by
      rcases hH.own.2 with ⟨h, _⟩ | ⟨g', _, _, h, _, hbl, _⟩
      · rw [h] at hk; cases hk
      · rw [h] at hk
        cases hk
        exact blk_ne hH.blk hbl (by decide) e.symm
    obtain ⟨q1, q2, q3⟩ := h.put (c' := c) (fun _ _ => rfl) (H1 := ⟨H.gh, H.v, H.L, le⟩) hx rfl hT (fun k _ e => by rw [e]; exact hH.hue) ⟨hH.hue, hB, ownsRow_turns hH.own hT hne, hH.huev⟩
    refine ⟨by rw [absT, hx]; rfl, c, fun _ _ => rfl, ⟨bm, _, q1, ?_, by omega⟩, hT.mono fun k _ e => by rw [e, Dh, hH.hue, hueC_mod h.hh.2]⟩
    rw [q2]
    funext j
    unfold renewV
    split
    · rw [absT, hx]; rfl
    · rfl
theorem Free34 {hu : Nat} {c : Nat → Nat} {w : World} {g n : Nat} {le : Int} {V : LkV} (id : Int) (h : LkS hu c w g le n V) :
    CallP Try.prog 34 #[.pointer (some ⟨g, 0, none⟩), .int .i64 id] (fun r w' => r = .bool (V id).isSome ∧ LeftL hu c w g le n (freeV V id) w') w := by
  obtain ⟨bm, T, h, rfl, hTl⟩ := h
  refine ⟨S34.calls _ _ _ _ ?_⟩
  unfold S34
  have c1 : w.cell? ⟨g, 1, none⟩ = some (.map (some bm)) := h.blk.cell 1
  (repeat with_reducible first | refine fd t1 (by decide) ?_ | refine ld one70 c1 ?_ | refine nck ?_ | refine cdT ?_ | refine cdF ?_ | refine gdY ?_ | refine gdFT ?_ | refine gdTF ?_ | refine gdU ?_ | refine gaY ?_ | refine gaFT ?_ | refine gaTF ?_ | refine pickT ?_ | refine pickF ?_ | refine bi_lss_t (by omega) ?_ | refine bi_lss_f (by omega) ?_ | refine bi_add64 (by omega) ?_ | refine bi_sub64 (by omega) ?_ | refine bi_eql_t (by omega) ?_ | refine bi_eql_f (by omega) ?_ | refine bi_neq_t (by omega) ?_ | refine bi_neq_f (by omega) ?_ | refine bi_gtr_t (by omega) ?_ | refine bi_gtr_f (by omega) ?_ | refine bi_leq_t (by omega) ?_ | refine bi_leq_f (by omega) ?_ | refine bi_geq_t (by omega) ?_ | refine bi_geq_f (by omega) ?_ | refine bi_xt0 ?_ | refine bi_xt1 ?_ | refine bi_xt2 ?_ | refine bi_xt3 ?_ | refine bi_T ?_ | refine bi_F ?_ | refine bi_not ?_ | refine bi_and ?_ | refine bi_or ?_ | refine bi_xor ?_ | refine bi_shr (by omega) (by decide) ?_ | refine bi_shl (by omega) (by decide) ?_ | refine bi_quo64 (by omega) ?_ | refine bi_rem64 (by omega) ?_ | refine bi_mul64 (by omega) ?_ | refine bi_neg ?_ | refine bi_un_xor32 ?_ | refine bi_add ?_ | refine bi_sub ?_ | refine bi_mul ?_ | refine bi_quo (by decide) ?_ | refine bi_rem (by decide) ?_)
  refine lkp und70 und3 z73 h.map ?_
  (repeat with_reducible first | refine fd t1 (by decide) ?_ | refine ld one70 c1 ?_ | refine nck ?_ | refine cdT ?_ | refine cdF ?_ | refine gdY ?_ | refine gdFT ?_ | refine gdTF ?_ | refine gdU ?_ | refine gaY ?_ | refine gaFT ?_ | refine gaTF ?_ | refine pickT ?_ | refine pickF ?_ | refine bi_lss_t (by omega) ?_ | refine bi_lss_f (by omega) ?_ | refine bi_add64 (by omega) ?_ | refine bi_sub64 (by omega) ?_ | refine bi_eql_t (by omega) ?_ | refine bi_eql_f (by omega) ?_ | refine bi_neq_t (by omega) ?_ | refine bi_neq_f (by omega) ?_ | refine bi_gtr_t (by omega) ?_ | refine bi_gtr_f (by omega) ?_ | refine bi_leq_t (by omega) ?_ | refine bi_leq_f (by omega) ?_ | refine bi_geq_t (by omega) ?_ | refine bi_geq_f (by omega) ?_ | refine bi_xt0 ?_ | refine bi_xt1 ?_ | refine bi_xt2 ?_ | refine bi_xt3 ?_ | refine bi_T ?_ | refine bi_F ?_ | refine bi_not ?_ | refine bi_and ?_ | refine bi_or ?_ | refine bi_xor ?_ | refine bi_shr (by omega) (by decide) ?_ | refine bi_shl (by omega) (by decide) ?_ | refine bi_quo64 (by omega) ?_ | refine bi_rem64 (by omega) ?_ | refine bi_mul64 (by omega) ?_ | refine bi_neg ?_ | refine bi_un_xor32 ?_ | refine bi_add ?_ | refine bi_sub ?_ | refine bi_mul ?_ | refine bi_quo (by decide) ?_ | refine bi_rem (by decide) ?_)
  refine dlt und70 und3 h.map ?_
  intro w1 hm1 hT1
  rw [delK_map Hd.ptr] at hm1
  refine ⟨by rw [getK_map Hd.ptr, absT]; cases getK id T <;> rfl, c, fun _ _ => rfl, ⟨bm, delK id T, ⟨h.hh, h.hue, h.huem, h.blk.turns hT1 h.ne, hm1, fun p hp => ?_⟩, ?_, by have := delK_len_le id T; omega⟩, hT1.mono fun k _ e => by rw [e, Dh, h.huem, Nat.mod_eq_of_lt h.hh.2]⟩
  · have hm := delK_sub _ _ _ hp
    exact ⟨(h.el p hm).1, (h.el p hm).2.turns hT1 (fun k hk e => by rw [hk, h.huem] at e; exact hueC_ne hu _ e.symm)⟩
  · funext j
    unfold absT freeV
    rw [getK_delK _ _ _ h.nodup]
    split <;> rfl
theorem Holds29 {hu : Nat} {c : Nat → Nat} {w : World} {g n : Nat} {le : Int} {V : LkV} (id : Int) (r : Rg) (h : LkS hu c w g le n V) (hok : LkOk 500 le V) :
    CallP Try.prog 29 #[.pointer (some ⟨g, 0, none⟩), .int .i64 id, rgV r] (fun u w' => ∃ b : Bool, u = .bool b ∧ (b = true ↔ holdsV V id r) ∧ Below w.heap.size w w') w := by
  obtain ⟨bm, T, h, rfl, hTl⟩ := h
  refine ⟨S29.calls _ _ _ _ _ ?_⟩
  unfold S29
  refine bxB ?_
  intro gr w1 hgr hR1 hb1
  have h1 := h.below hb1
  have c1 : w1.cell? ⟨g, 1, none⟩ = some (.map (some bm)) := h1.blk.cell 1
  (repeat with_reducible first | refine fd t1 (by decide) ?_ | refine ld one70 c1 ?_ | refine nck ?_ | refine cdT ?_ | refine cdF ?_ | refine gdY ?_ | refine gdFT ?_ | refine gdTF ?_ | refine gdU ?_ | refine gaY ?_ | refine gaFT ?_ | refine gaTF ?_ | refine pickT ?_ | refine pickF ?_ | refine bi_lss_t (by omega) ?_ | refine bi_lss_f (by omega) ?_ | refine bi_add64 (by omega) ?_ | refine bi_sub64 (by omega) ?_ | refine bi_eql_t (by omega) ?_ | refine bi_eql_f (by omega) ?_ | refine bi_neq_t (by omega) ?_ | refine bi_neq_f (by omega) ?_ | refine bi_gtr_t (by omega) ?_ | refine bi_gtr_f (by omega) ?_ | refine bi_leq_t (by omega) ?_ | refine bi_leq_f (by omega) ?_ | refine bi_geq_t (by omega) ?_ | refine bi_geq_f (by omega) ?_ | refine bi_xt0 ?_ | refine bi_xt1 ?_ | refine bi_xt2 ?_ | refine bi_xt3 ?_ | refine bi_T ?_ | refine bi_F ?_ | refine bi_not ?_ | refine bi_and ?_ | refine bi_or ?_ | refine bi_xor ?_ | refine bi_shr (by omega) (by decide) ?_ | refine bi_shl (by omega) (by decide) ?_ | refine bi_quo64 (by omega) ?_ | refine bi_rem64 (by omega) ?_ | refine bi_mul64 (by omega) ?_ | refine bi_neg ?_ | refine bi_un_xor32 ?_ | refine bi_add ?_ | refine bi_sub ?_ | refine bi_mul ?_ | refine bi_quo (by decide) ?_ | refine bi_rem (by decide) ?_)
  refine lkq und70 und3 z73 h1.map ?_
  rw [getK_ptr]
  have hdr : Below w1.heap.size w1 w1.drew := (Below.refl _ _).drew
  refine draw (Below w1.heap.size w1) hdr ?_
  have h2 := h1.below hdr
  have hb2 := below_then hb1 hdr
  have kR : ∀ w', Below w1.heap.size w1 w' → Blk w' gr 23 (rgA r) := fun w' hw => hR1.below' hw
  have kB : ∀ H, getK id T = some H → ∀ w', Below w1.heap.size w1 w' → w'.cell? ⟨H.gh, 0, none⟩ = some H.v := fun H hx w' hw => ((h1.el _ (getK_mem _ _ _ hx)).2.below hw).blk.cell 0
  generalize w1.drew = w2 at *
  cases hx : getK id T with
  | none =>
    simp only [Option.map_none, Option.getD_none]
    refine yofPR (pr_pnot und73) ?_
    simp only [Option.isSome_none]
    (repeat with_reducible first | refine ynck ?_ | refine nck ?_ | refine cdT ?_ | refine cdF ?_ | refine gdY ?_ | refine gdFT ?_ | refine gdTF ?_ | refine gdU ?_ | refine gaY ?_ | refine gaFT ?_ | refine gaTF ?_ | refine pickT ?_ | refine pickF ?_ | refine yi_lss_t (by omega) ?_ | refine yi_lss_f (by omega) ?_ | refine yi_add64 (by omega) ?_ | refine yi_sub64 (by omega) ?_ | refine yi_eql_t (by omega) ?_ | refine yi_eql_f (by omega) ?_ | refine yi_neq_t (by omega) ?_ | refine yi_neq_f (by omega) ?_ | refine yi_gtr_t (by omega) ?_ | refine yi_gtr_f (by omega) ?_ | refine yi_leq_t (by omega) ?_ | refine yi_leq_f (by omega) ?_ | refine yi_geq_t (by omega) ?_ | refine yi_geq_f (by omega) ?_ | refine yi_xt0 ?_ | refine yi_xt1 ?_ | refine yi_xt2 ?_ | refine yi_xt3 ?_ | refine yi_T ?_ | refine yi_F ?_ | refine yi_not ?_ | refine yi_and ?_ | refine yi_or ?_ | refine yi_xor ?_ | refine yi_shr (by omega) (by decide) ?_ | refine yi_shl (by omega) (by decide) ?_ | refine yi_quo64 (by omega) ?_ | refine yi_rem64 (by omega) ?_ | refine yi_mul64 (by omega) ?_ | refine yi_neg ?_ | refine yi_un_xor32 ?_ | refine yi_add ?_ | refine yi_sub ?_ | refine yi_mul ?_ | refine yi_quo (by decide) ?_ | refine yi_rem (by decide) ?_)
    refine ⟨false, rfl, ⟨(fun e => by cases e), fun ⟨L, left, e, _⟩ => ?_⟩, hb2⟩
    rw [absT, hx] at e; cases e
  | some H =>
    simp only [Option.map_some, Option.getD_some, Hd.ptr]
    refine yofPR (pr_pnot und73) ?_
    simp only [Option.isSome_some]
    obtain ⟨hid, hH⟩ := h2.el _ (getK_mem _ _ _ hx)
    have hv : absT T id = some (H.L, H.left) := by rw [absT, hx]; rfl
    obtain ⟨_, _, _, hlen, _⟩ := hok _ _ _ hv
    (repeat with_reducible first | refine yfd k0 (by decide) ?_ | refine yl1 one26 (kB H hx) ?_ | refine ynck ?_ | refine nck ?_ | refine cdT ?_ | refine cdF ?_ | refine gdY ?_ | refine gdFT ?_ | refine gdTF ?_ | refine gdU ?_ | refine gaY ?_ | refine gaFT ?_ | refine gaTF ?_ | refine pickT ?_ | refine pickF ?_ | refine yi_lss_t (by omega) ?_ | refine yi_lss_f (by omega) ?_ | refine yi_add64 (by omega) ?_ | refine yi_sub64 (by omega) ?_ | refine yi_eql_t (by omega) ?_ | refine yi_eql_f (by omega) ?_ | refine yi_neq_t (by omega) ?_ | refine yi_neq_f (by omega) ?_ | refine yi_gtr_t (by omega) ?_ | refine yi_gtr_f (by omega) ?_ | refine yi_leq_t (by omega) ?_ | refine yi_leq_f (by omega) ?_ | refine yi_geq_t (by omega) ?_ | refine yi_geq_f (by omega) ?_ | refine yi_xt0 ?_ | refine yi_xt1 ?_ | refine yi_xt2 ?_ | refine yi_xt3 ?_ | refine yi_T ?_ | refine yi_F ?_ | refine yi_not ?_ | refine yi_and ?_ | refine yi_or ?_ | refine yi_xor ?_ | refine yi_shr (by omega) (by decide) ?_ | refine yi_shl (by omega) (by decide) ?_ | refine yi_quo64 (by omega) ?_ | refine yi_rem64 (by omega) ?_ | refine yi_mul64 (by omega) ?_ | refine yi_neg ?_ | refine yi_un_xor32 ?_ | refine yi_add ?_ | refine yi_sub ?_ | refine yi_mul ?_ | refine yi_quo (by decide) ?_ | refine yi_rem (by decide) ?_)
    refine yldA agg23 kR (by rw [sz23]; rfl) ?_
    (repeat with_reducible first | refine ynck ?_ | refine nck ?_ | refine cdT ?_ | refine cdF ?_ | refine gdY ?_ | refine gdFT ?_ | refine gdTF ?_ | refine gdU ?_ | refine gaY ?_ | refine gaFT ?_ | refine gaTF ?_ | refine pickT ?_ | refine pickF ?_ | refine yi_lss_t (by omega) ?_ | refine yi_lss_f (by omega) ?_ | refine yi_add64 (by omega) ?_ | refine yi_sub64 (by omega) ?_ | refine yi_eql_t (by omega) ?_ | refine yi_eql_f (by omega) ?_ | refine yi_neq_t (by omega) ?_ | refine yi_neq_f (by omega) ?_ | refine yi_gtr_t (by omega) ?_ | refine yi_gtr_f (by omega) ?_ | refine yi_leq_t (by omega) ?_ | refine yi_leq_f (by omega) ?_ | refine yi_geq_t (by omega) ?_ | refine yi_geq_f (by omega) ?_ | refine yi_xt0 ?_ | refine yi_xt1 ?_ | refine yi_xt2 ?_ | refine yi_xt3 ?_ | refine yi_T ?_ | refine yi_F ?_ | refine yi_not ?_ | refine yi_and ?_ | refine yi_or ?_ | refine yi_xor ?_ | refine yi_shr (by omega) (by decide) ?_ | refine yi_shl (by omega) (by decide) ?_ | refine yi_quo64 (by omega) ?_ | refine yi_rem64 (by omega) ?_ | refine yi_mul64 (by omega) ?_ | refine yi_neg ?_ | refine yi_un_xor32 ?_ | refine yi_add ?_ | refine yi_sub ?_ | refine yi_mul ?_ | refine yi_quo (by decide) ?_ | refine yi_rem (by decide) ?_)
    refine act ?_
    refine (covers23 H.v H.L r (by omega) w2 hH.rd).mono ?_
    rintro _ w3 ⟨b, rfl, hb, h3⟩
    refine ⟨_, below_then hdr h3, fun _ h => h, ?_⟩
    refine pickT ?_
    refine ⟨b, rfl, hb.trans ⟨fun e => ⟨_, _, hv, e⟩, ?_⟩, below_then hb2 h3⟩
    rintro ⟨L, left, e, q⟩
    rw [hv] at e
    cases e
    exact q
theorem Ranges35 {hu : Nat} {c : Nat → Nat} {w : World} {g n : Nat} {le : Int} {V : LkV} (id : Int) (h : LkS hu c w g le n V) (hok : LkOk 500 le V) :
    CallP Try.prog 35 #[.pointer (some ⟨g, 0, none⟩), .int .i64 id] (fun u w' => OwnG w.heap.size w' u (((V id).map (·.1)).getD []) ∧ Below w.heap.size w w') w := by
  obtain ⟨bm, T, h, rfl, hTl⟩ := h
  refine ⟨S35.calls _ _ _ _ ?_⟩
  unfold S35
  have c1 : w.cell? ⟨g, 1, none⟩ = some (.map (some bm)) := h.blk.cell 1
  (repeat with_reducible first | refine fd t1 (by decide) ?_ | refine ld one70 c1 ?_ | refine nck ?_ | refine cdT ?_ | refine cdF ?_ | refine gdY ?_ | refine gdFT ?_ | refine gdTF ?_ | refine gdU ?_ | refine gaY ?_ | refine gaFT ?_ | refine gaTF ?_ | refine pickT ?_ | refine pickF ?_ | refine bi_lss_t (by omega) ?_ | refine bi_lss_f (by omega) ?_ | refine bi_add64 (by omega) ?_ | refine bi_sub64 (by omega) ?_ | refine bi_eql_t (by omega) ?_ | refine bi_eql_f (by omega) ?_ | refine bi_neq_t (by omega) ?_ | refine bi_neq_f (by omega) ?_ | refine bi_gtr_t (by omega) ?_ | refine bi_gtr_f (by omega) ?_ | refine bi_leq_t (by omega) ?_ | refine bi_leq_f (by omega) ?_ | refine bi_geq_t (by omega) ?_ | refine bi_geq_f (by omega) ?_ | refine bi_xt0 ?_ | refine bi_xt1 ?_ | refine bi_xt2 ?_ | refine bi_xt3 ?_ | refine bi_T ?_ | refine bi_F ?_ | refine bi_not ?_ | refine bi_and ?_ | refine bi_or ?_ | refine bi_xor ?_ | refine bi_shr (by omega) (by decide) ?_ | refine bi_shl (by omega) (by decide) ?_ | refine bi_quo64 (by omega) ?_ | refine bi_rem64 (by omega) ?_ | refine bi_mul64 (by omega) ?_ | refine bi_neg ?_ | refine bi_un_xor32 ?_ | refine bi_add ?_ | refine bi_sub ?_ | refine bi_mul ?_ | refine bi_quo (by decide) ?_ | refine bi_rem (by decide) ?_)
  refine lkq und70 und3 z73 h.map ?_
  rw [getK_ptr]
  cases hx : getK id T with
  | none =>
    simp only [Option.map_none, Option.getD_none]
    refine ofPR (pr_pnot und73) ?_
    simp only [Option.isSome_none]
    (repeat with_reducible first | refine nck ?_ | refine cdT ?_ | refine cdF ?_ | refine gdY ?_ | refine gdFT ?_ | refine gdTF ?_ | refine gdU ?_ | refine gaY ?_ | refine gaFT ?_ | refine gaTF ?_ | refine pickT ?_ | refine pickF ?_ | refine bi_lss_t (by omega) ?_ | refine bi_lss_f (by omega) ?_ | refine bi_add64 (by omega) ?_ | refine bi_sub64 (by omega) ?_ | refine bi_eql_t (by omega) ?_ | refine bi_eql_f (by omega) ?_ | refine bi_neq_t (by omega) ?_ | refine bi_neq_f (by omega) ?_ | refine bi_gtr_t (by omega) ?_ | refine bi_gtr_f (by omega) ?_ | refine bi_leq_t (by omega) ?_ | refine bi_leq_f (by omega) ?_ | refine bi_geq_t (by omega) ?_ | refine bi_geq_f (by omega) ?_ | refine bi_xt0 ?_ | refine bi_xt1 ?_ | refine bi_xt2 ?_ | refine bi_xt3 ?_ | refine bi_T ?_ | refine bi_F ?_ | refine bi_not ?_ | refine bi_and ?_ | refine bi_or ?_ | refine bi_xor ?_ | refine bi_shr (by omega) (by decide) ?_ | refine bi_shl (by omega) (by decide) ?_ | refine bi_quo64 (by omega) ?_ | refine bi_rem64 (by omega) ?_ | refine bi_mul64 (by omega) ?_ | refine bi_neg ?_ | refine bi_un_xor32 ?_ | refine bi_add ?_ | refine bi_sub ?_ | refine bi_mul ?_ | refine bi_quo (by decide) ?_ | refine bi_rem (by decide) ?_)
    rw [absT, hx]
    exact ⟨(OwnA.nil _ _).g, Below.refl _ _⟩
  | some H =>
    simp only [Option.map_some, Option.getD_some, Hd.ptr]
    refine ofPR (pr_pnot und73) ?_
    simp only [Option.isSome_some]
    obtain ⟨hid, hH⟩ := h.el _ (getK_mem _ _ _ hx)
    have hv : absT T id = some (H.L, H.left) := by rw [absT, hx]; rfl
    obtain ⟨_, _, _, hlen, _⟩ := hok _ _ _ hv
    have d0 : w.cell? ⟨H.gh, 0, none⟩ = some H.v := hH.blk.cell 0
    (repeat with_reducible first | refine fd k0 (by decide) ?_ | refine ld one26 d0 ?_ | refine nck ?_ | refine cdT ?_ | refine cdF ?_ | refine gdY ?_ | refine gdFT ?_ | refine gdTF ?_ | refine gdU ?_ | refine gaY ?_ | refine gaFT ?_ | refine gaTF ?_ | refine pickT ?_ | refine pickF ?_ | refine bi_lss_t (by omega) ?_ | refine bi_lss_f (by omega) ?_ | refine bi_add64 (by omega) ?_ | refine bi_sub64 (by omega) ?_ | refine bi_eql_t (by omega) ?_ | refine bi_eql_f (by omega) ?_ | refine bi_neq_t (by omega) ?_ | refine bi_neq_f (by omega) ?_ | refine bi_gtr_t (by omega) ?_ | refine bi_gtr_f (by omega) ?_ | refine bi_leq_t (by omega) ?_ | refine bi_leq_f (by omega) ?_ | refine bi_geq_t (by omega) ?_ | refine bi_geq_f (by omega) ?_ | refine bi_xt0 ?_ | refine bi_xt1 ?_ | refine bi_xt2 ?_ | refine bi_xt3 ?_ | refine bi_T ?_ | refine bi_F ?_ | refine bi_not ?_ | refine bi_and ?_ | refine bi_or ?_ | refine bi_xor ?_ | refine bi_shr (by omega) (by decide) ?_ | refine bi_shl (by omega) (by decide) ?_ | refine bi_quo64 (by omega) ?_ | refine bi_rem64 (by omega) ?_ | refine bi_mul64 (by omega) ?_ | refine bi_neg ?_ | refine bi_un_xor32 ?_ | refine bi_add ?_ | refine bi_sub ?_ | refine bi_mul ?_ | refine bi_quo (by decide) ?_ | refine bi_rem (by decide) ?_)
    refine (clone47 H.v H.L (by omega) w hH.rd).mono ?_
    rintro u w1 ⟨q1, q2⟩
    rw [hv]
    exact ⟨q1, q2⟩
end Go.Proofs.Ytcihbjempijhpaa.E
/- The table of locks: Blocks, sweep, Tick. -/
namespace Go.Proofs.Ytcihbjempijhpaa.E
open Go Go.RowKit
set_option linter.unusedSimpArgs false
set_option linter.unusedVariables false

theorem getK_filter_val {α : Type} (q : Int × α → Bool) (j : Int) : ∀ {l : List (Int × α)}, (l.map (·.1)).Nodup → getK j (l.filter q) = (getK j l).bind fun v => if q (j, v) = true then some v else none
  | [], _ => rfl
  | (a, u) :: r, h => by
    rw [List.map_cons, List.nodup_cons] at h
    have ih := getK_filter_val q j h.2
    rw [List.filter_cons, getK]
    by_cases hj : j = a
    · subst hj
      have hn : getK j r = none := getK_none_key fun p hp e => h.1 (e ▸ List.mem_map.2 ⟨p, hp, rfl⟩)
      rw [if_pos rfl]
      split
      · rename_i hq
        rw [getK, if_pos rfl]
        simp [hq]
      · rename_i hq
        rw [ih, hn]
        simp [hq]
    · rw [if_neg hj]
      split
      · rw [getK, if_neg hj]; exact ih
      · exact ih
theorem MapR.neb {w : World} {b r g : Nat} {l : List (Int × Value)} {todo : List Int} {t : TypeId} {cs : Array Value} (h : MapR w b r l todo) (hb : Blk w g t cs) : g ≠ r := by
  obtain ⟨es, clock, since, seen, c0, h1, h2, hst, hsz, hwf, h6, _⟩ := h
  intro e
  subst e
  have := hb.symm.trans h6
  simp at this
theorem bx1 {K : Value → World → Prop} {w : World} {t : TypeId} {v : Value} (h1 : v.cells = #[v]) (k : ∀ g w', g = w.heap.size → Blk w' g t #[v] → Below w.heap.size w w' → K (.pointer (some ⟨g, 0, none⟩)) w') : LiftP Try.prog (Instr.box t v) K w := by
  refine bx ?_
  rw [h1]
  exact k _ _ rfl (Blk.new w t #[v]) ((Below.refl _ _).alloc (Nat.le_refl _) _)
theorem blocks55 (x : Rg) (s : Txt) (g : Nat) (w : World) (hb : Blk w g 9 #[tS s]) : CallP Try.prog 55 #[rgV x, .pointer (some ⟨g, 0, none⟩)] (fun v w' => v = .bool (decide (hasR x s)) ∧ Below w.heap.size w w') w := by
  refine ⟨S55.calls _ _ _ _ ?_⟩
  unfold S55
  refine bxB ?_
  intro gx w1 hgx hX1 hb1
  have c0 : w1.cell? ⟨g, 0, none⟩ = some (tS s) := (hb.below' hb1).cell 0
  refine ldA agg23 hX1 (by rw [sz23]; rfl) ?_
  (repeat with_reducible first | refine ld one9 c0 ?_ | refine nck ?_ | refine cdT ?_ | refine cdF ?_ | refine gdY ?_ | refine gdFT ?_ | refine gdTF ?_ | refine gdU ?_ | refine gaY ?_ | refine gaFT ?_ | refine gaTF ?_ | refine pickT ?_ | refine pickF ?_ | refine bi_lss_t (by omega) ?_ | refine bi_lss_f (by omega) ?_ | refine bi_add64 (by omega) ?_ | refine bi_sub64 (by omega) ?_ | refine bi_eql_t (by omega) ?_ | refine bi_eql_f (by omega) ?_ | refine bi_neq_t (by omega) ?_ | refine bi_neq_f (by omega) ?_ | refine bi_gtr_t (by omega) ?_ | refine bi_gtr_f (by omega) ?_ | refine bi_leq_t (by omega) ?_ | refine bi_leq_f (by omega) ?_ | refine bi_geq_t (by omega) ?_ | refine bi_geq_f (by omega) ?_ | refine bi_xt0 ?_ | refine bi_xt1 ?_ | refine bi_xt2 ?_ | refine bi_xt3 ?_ | refine bi_T ?_ | refine bi_F ?_ | refine bi_not ?_ | refine bi_and ?_ | refine bi_or ?_ | refine bi_xor ?_ | refine bi_shr (by omega) (by decide) ?_ | refine bi_shl (by omega) (by decide) ?_ | refine bi_quo64 (by omega) ?_ | refine bi_rem64 (by omega) ?_ | refine bi_mul64 (by omega) ?_ | refine bi_neg ?_ | refine bi_un_xor32 ?_ | refine bi_add ?_ | refine bi_sub ?_ | refine bi_mul ?_ | refine bi_quo (by decide) ?_ | refine bi_rem (by decide) ?_)
  refine (has16 x s w1).mono ?_
  rintro _ w2 ⟨rfl, h2⟩
  exact ⟨rfl, below_then hb1 h2⟩
theorem Blocks30 {hu : Nat} {c : Nat → Nat} {w : World} {g n : Nat} {le : Int} {V : LkV} (s : Txt) (h : LkS hu c w g le n V) :
    CallP Try.prog 30 #[.pointer (some ⟨g, 0, none⟩), tS s] (fun u w' => ∃ b : Bool, u = .bool b ∧ (b = true ↔ blocksV V s) ∧ Below w.heap.size w w') w := by
  obtain ⟨bm, T, h, rfl, hTl⟩ := h
  refine ⟨S30.calls _ _ _ _ ?_⟩
  unfold S30
  refine bx1 rfl ?_
  intro gk w1 hgk hK1 hb1
  have h1 := h.below hb1
  have c1 : w1.cell? ⟨g, 1, none⟩ = some (.map (some bm)) := h1.blk.cell 1
  (repeat with_reducible first | refine fd t1 (by decide) ?_ | refine ld one70 c1 ?_ | refine nck ?_ | refine cdT ?_ | refine cdF ?_ | refine gdY ?_ | refine gdFT ?_ | refine gdTF ?_ | refine gdU ?_ | refine gaY ?_ | refine gaFT ?_ | refine gaTF ?_ | refine pickT ?_ | refine pickF ?_ | refine bi_lss_t (by omega) ?_ | refine bi_lss_f (by omega) ?_ | refine bi_add64 (by omega) ?_ | refine bi_sub64 (by omega) ?_ | refine bi_eql_t (by omega) ?_ | refine bi_eql_f (by omega) ?_ | refine bi_neq_t (by omega) ?_ | refine bi_neq_f (by omega) ?_ | refine bi_gtr_t (by omega) ?_ | refine bi_gtr_f (by omega) ?_ | refine bi_leq_t (by omega) ?_ | refine bi_leq_f (by omega) ?_ | refine bi_geq_t (by omega) ?_ | refine bi_geq_f (by omega) ?_ | refine bi_xt0 ?_ | refine bi_xt1 ?_ | refine bi_xt2 ?_ | refine bi_xt3 ?_ | refine bi_T ?_ | refine bi_F ?_ | refine bi_not ?_ | refine bi_and ?_ | refine bi_or ?_ | refine bi_xor ?_ | refine bi_shr (by omega) (by decide) ?_ | refine bi_shl (by omega) (by decide) ?_ | refine bi_quo64 (by omega) ?_ | refine bi_rem64 (by omega) ?_ | refine bi_mul64 (by omega) ?_ | refine bi_neg ?_ | refine bi_un_xor32 ?_ | refine bi_add ?_ | refine bi_sub ?_ | refine bi_mul ?_ | refine bi_quo (by decide) ?_ | refine bi_rem (by decide) ?_)
  refine rng und70 h1.map ?_
  intro w2 hm2 hb2
  generalize hr : w1.heap.size = r at *
  have hb2' : Below w.heap.size w w2 := hb1.trans (hb2.mono (by have := hb1.size; omega))
  refine LoopP.inv0n (fun n w' => ∃ todo : List Int, todo.length = n ∧ MapR w' bm r (T.map fun p => (p.1, p.2.ptr)) todo ∧ (∀ p ∈ T, p.1 ∉ todo → ¬ inL p.2.L s) ∧ Turns (fun k => k = r) w1 w') _ ⟨_, rfl, hm2, ?_, Turns.of_below (by rw [hr]; exact hb2)⟩ ?_
  · intro p hp hn
    exact absurd (by rw [List.map_map]; exact List.mem_map.2 ⟨p, hp, rfl⟩) hn
  rintro n w3 ⟨todo, rfl, hm3, hall, hT3⟩ J hJ
  have hb3 : Below w.heap.size w w3 := hb1.trans (hT3.below hb1.size fun k hk e => by have := hb1.size; omega)
  refine nxt hm3 (fun e => ?_) ?_
  · subst e
    (repeat with_reducible first | refine nck ?_ | refine cdT ?_ | refine cdF ?_ | refine gdY ?_ | refine gdFT ?_ | refine gdTF ?_ | refine gdU ?_ | refine gaY ?_ | refine gaFT ?_ | refine gaTF ?_ | refine pickT ?_ | refine pickF ?_ | refine bi_lss_t (by omega) ?_ | refine bi_lss_f (by omega) ?_ | refine bi_add64 (by omega) ?_ | refine bi_sub64 (by omega) ?_ | refine bi_eql_t (by omega) ?_ | refine bi_eql_f (by omega) ?_ | refine bi_neq_t (by omega) ?_ | refine bi_neq_f (by omega) ?_ | refine bi_gtr_t (by omega) ?_ | refine bi_gtr_f (by omega) ?_ | refine bi_leq_t (by omega) ?_ | refine bi_leq_f (by omega) ?_ | refine bi_geq_t (by omega) ?_ | refine bi_geq_f (by omega) ?_ | refine bi_xt0 ?_ | refine bi_xt1 ?_ | refine bi_xt2 ?_ | refine bi_xt3 ?_ | refine bi_T ?_ | refine bi_F ?_ | refine bi_not ?_ | refine bi_and ?_ | refine bi_or ?_ | refine bi_xor ?_ | refine bi_shr (by omega) (by decide) ?_ | refine bi_shl (by omega) (by decide) ?_ | refine bi_quo64 (by omega) ?_ | refine bi_rem64 (by omega) ?_ | refine bi_mul64 (by omega) ?_ | refine bi_neg ?_ | refine bi_un_xor32 ?_ | refine bi_add ?_ | refine bi_sub ?_ | refine bi_mul ?_ | refine bi_quo (by decide) ?_ | refine bi_rem (by decide) ?_)
    refine ⟨false, rfl, ⟨(fun e => by cases e), ?_⟩, hb3⟩
    rintro ⟨id, L, left, hv, hin⟩
    obtain ⟨H, hx, he⟩ := Option.map_eq_some_iff.1 hv
    cases he
    exact absurd hin (hall _ (getK_mem _ _ _ hx) (by simp))
  · intro k v w4 hk hget hm4 hT4 hent
    rw [getK_map Hd.ptr] at hget
    obtain ⟨H, hx, rfl⟩ := Option.map_eq_some_iff.1 hget
    have hT4' : Turns (fun k => k = r) w1 w4 := hT3.trans (hT4.mono fun j _ e => .inl e)
    have hlt : (todo.filter fun j => decide (j ≠ k)).length < todo.length := by
      rw [List.length_filter_lt_length_iff_exists]
      exact ⟨k, hk, by simp⟩
    have hbw4 : Below w.heap.size w w4 := hb1.trans (hT4'.below hb1.size fun k hk e => by have := hb1.size; omega)
    have hbw14 : Below w1.heap.size w1 w4 := hT4'.below (Nat.le_refl _) fun k hk e => by omega
    have hH := ((h1.el _ (getK_mem _ _ _ hx)).2).below hbw14
    have hK4 := hK1.below' hbw14
    have d0 : w4.cell? ⟨H.gh, 0, none⟩ = some H.v := hH.blk.cell 0
    (repeat with_reducible first | refine nck ?_ | refine cdT ?_ | refine cdF ?_ | refine gdY ?_ | refine gdFT ?_ | refine gdTF ?_ | refine gdU ?_ | refine gaY ?_ | refine gaFT ?_ | refine gaTF ?_ | refine pickT ?_ | refine pickF ?_ | refine bi_lss_t (by omega) ?_ | refine bi_lss_f (by omega) ?_ | refine bi_add64 (by omega) ?_ | refine bi_sub64 (by omega) ?_ | refine bi_eql_t (by omega) ?_ | refine bi_eql_f (by omega) ?_ | refine bi_neq_t (by omega) ?_ | refine bi_neq_f (by omega) ?_ | refine bi_gtr_t (by omega) ?_ | refine bi_gtr_f (by omega) ?_ | refine bi_leq_t (by omega) ?_ | refine bi_leq_f (by omega) ?_ | refine bi_geq_t (by omega) ?_ | refine bi_geq_f (by omega) ?_ | refine bi_xt0 ?_ | refine bi_xt1 ?_ | refine bi_xt2 ?_ | refine bi_xt3 ?_ | refine bi_T ?_ | refine bi_F ?_ | refine bi_not ?_ | refine bi_and ?_ | refine bi_or ?_ | refine bi_xor ?_ | refine bi_shr (by omega) (by decide) ?_ | refine bi_shl (by omega) (by decide) ?_ | refine bi_quo64 (by omega) ?_ | refine bi_rem64 (by omega) ?_ | refine bi_mul64 (by omega) ?_ | refine bi_neg ?_ | refine bi_un_xor32 ?_ | refine bi_add ?_ | refine bi_sub ?_ | refine bi_mul ?_ | refine bi_quo (by decide) ?_ | refine bi_rem (by decide) ?_)
    refine lift hent ?_
    unfold Hd.ptr
    (repeat with_reducible first | refine fd k0 (by decide) ?_ | refine ld one26 d0 ?_ | refine nck ?_ | refine cdT ?_ | refine cdF ?_ | refine gdY ?_ | refine gdFT ?_ | refine gdTF ?_ | refine gdU ?_ | refine gaY ?_ | refine gaFT ?_ | refine gaTF ?_ | refine pickT ?_ | refine pickF ?_ | refine bi_lss_t (by omega) ?_ | refine bi_lss_f (by omega) ?_ | refine bi_add64 (by omega) ?_ | refine bi_sub64 (by omega) ?_ | refine bi_eql_t (by omega) ?_ | refine bi_eql_f (by omega) ?_ | refine bi_neq_t (by omega) ?_ | refine bi_neq_f (by omega) ?_ | refine bi_gtr_t (by omega) ?_ | refine bi_gtr_f (by omega) ?_ | refine bi_leq_t (by omega) ?_ | refine bi_leq_f (by omega) ?_ | refine bi_geq_t (by omega) ?_ | refine bi_geq_f (by omega) ?_ | refine bi_xt0 ?_ | refine bi_xt1 ?_ | refine bi_xt2 ?_ | refine bi_xt3 ?_ | refine bi_T ?_ | refine bi_F ?_ | refine bi_not ?_ | refine bi_and ?_ | refine bi_or ?_ | refine bi_xor ?_ | refine bi_shr (by omega) (by decide) ?_ | refine bi_shl (by omega) (by decide) ?_ | refine bi_quo64 (by omega) ?_ | refine bi_rem64 (by omega) ?_ | refine bi_mul64 (by omega) ?_ | refine bi_neg ?_ | refine bi_un_xor32 ?_ | refine bi_add ?_ | refine bi_sub ?_ | refine bi_mul ?_ | refine bi_quo (by decide) ?_ | refine bi_rem (by decide) ?_)
    refine mkf ?_
    refine (contains52 H.v H.L 55 #[.pointer (some ⟨gk, 0, none⟩)] (fun x => decide (hasR x s)) (by kernel_rfl) w4 (fun x w' hb => blocks55 x s gk w' (hK4.below' hb)) hH.rd).mono ?_
    rintro _ w5 ⟨rfl, h5⟩
    have hb5 := below_then hbw4 h5
    cases hany : H.L.any fun x => decide (hasR x s) with
    | true =>
      (repeat with_reducible first | refine nck ?_ | refine cdT ?_ | refine cdF ?_ | refine gdY ?_ | refine gdFT ?_ | refine gdTF ?_ | refine gdU ?_ | refine gaY ?_ | refine gaFT ?_ | refine gaTF ?_ | refine pickT ?_ | refine pickF ?_ | refine bi_lss_t (by omega) ?_ | refine bi_lss_f (by omega) ?_ | refine bi_add64 (by omega) ?_ | refine bi_sub64 (by omega) ?_ | refine bi_eql_t (by omega) ?_ | refine bi_eql_f (by omega) ?_ | refine bi_neq_t (by omega) ?_ | refine bi_neq_f (by omega) ?_ | refine bi_gtr_t (by omega) ?_ | refine bi_gtr_f (by omega) ?_ | refine bi_leq_t (by omega) ?_ | refine bi_leq_f (by omega) ?_ | refine bi_geq_t (by omega) ?_ | refine bi_geq_f (by omega) ?_ | refine bi_xt0 ?_ | refine bi_xt1 ?_ | refine bi_xt2 ?_ | refine bi_xt3 ?_ | refine bi_T ?_ | refine bi_F ?_ | refine bi_not ?_ | refine bi_and ?_ | refine bi_or ?_ | refine bi_xor ?_ | refine bi_shr (by omega) (by decide) ?_ | refine bi_shl (by omega) (by decide) ?_ | refine bi_quo64 (by omega) ?_ | refine bi_rem64 (by omega) ?_ | refine bi_mul64 (by omega) ?_ | refine bi_neg ?_ | refine bi_un_xor32 ?_ | refine bi_add ?_ | refine bi_sub ?_ | refine bi_mul ?_ | refine bi_quo (by decide) ?_ | refine bi_rem (by decide) ?_)
      refine ⟨true, rfl, ⟨fun _ => ⟨k, H.L, H.left, by rw [absT, hx]; rfl, ?_⟩, fun _ => rfl⟩, hb5⟩
      obtain ⟨x, hxm, hxs⟩ := List.any_eq_true.1 hany
      exact ⟨x, hxm, by simpa using hxs⟩
    | false =>
      (repeat with_reducible first | refine nck ?_ | refine cdT ?_ | refine cdF ?_ | refine gdY ?_ | refine gdFT ?_ | refine gdTF ?_ | refine gdU ?_ | refine gaY ?_ | refine gaFT ?_ | refine gaTF ?_ | refine pickT ?_ | refine pickF ?_ | refine bi_lss_t (by omega) ?_ | refine bi_lss_f (by omega) ?_ | refine bi_add64 (by omega) ?_ | refine bi_sub64 (by omega) ?_ | refine bi_eql_t (by omega) ?_ | refine bi_eql_f (by omega) ?_ | refine bi_neq_t (by omega) ?_ | refine bi_neq_f (by omega) ?_ | refine bi_gtr_t (by omega) ?_ | refine bi_gtr_f (by omega) ?_ | refine bi_leq_t (by omega) ?_ | refine bi_leq_f (by omega) ?_ | refine bi_geq_t (by omega) ?_ | refine bi_geq_f (by omega) ?_ | refine bi_xt0 ?_ | refine bi_xt1 ?_ | refine bi_xt2 ?_ | refine bi_xt3 ?_ | refine bi_T ?_ | refine bi_F ?_ | refine bi_not ?_ | refine bi_and ?_ | refine bi_or ?_ | refine bi_xor ?_ | refine bi_shr (by omega) (by decide) ?_ | refine bi_shl (by omega) (by decide) ?_ | refine bi_quo64 (by omega) ?_ | refine bi_rem64 (by omega) ?_ | refine bi_mul64 (by omega) ?_ | refine bi_neg ?_ | refine bi_un_xor32 ?_ | refine bi_add ?_ | refine bi_sub ?_ | refine bi_mul ?_ | refine bi_quo (by decide) ?_ | refine bi_rem (by decide) ?_)
      refine hJ _ _ hlt ⟨_, rfl, hm4.below h5, fun p hp hn => ?_, hT4'.then_below h5⟩
      by_cases hpk : p.1 = k
      · have : getK k T = some p.2 := getK_of_mem h.nodup (by rw [← hpk]; exact hp)
        rw [hx] at this
        cases this
        rintro ⟨x, hxm, hxs⟩
        have := List.any_eq_false.1 hany x hxm
        simp at this
        exact this hxs
      · exact hall p hp fun e => hn (List.mem_filter.2 ⟨e, by simpa using hpk⟩)
/-! ### sweep -/
def keepH (H : Hd) : Prop := H.left ≠ 0 ∧ H.L ≠ []
instance (H : Hd) : Decidable (keepH H) := by unfold keepH; infer_instance
theorem sweep71 {c : Nat → Nat} {x : Nat} {w : World} {H : Hd} (id : Int) (h : HdAt c x w H) : CallP Try.prog 71 #[.int .i64 id, H.ptr] (fun u w' => u = .bool (decide (¬ keepH H)) ∧ w = w') w := by
  refine ⟨S71.calls _ _ _ _ ?_⟩
  unfold S71 Hd.ptr
  have d0 : w.cell? ⟨H.gh, 0, none⟩ = some H.v := h.blk.cell 0
  have d1 : w.cell? ⟨H.gh, 1, none⟩ = some (.int .i64 H.left) := h.blk.cell 1
  (repeat with_reducible first | refine fd k1 (by decide) ?_ | refine ld one3' d1 ?_ | refine nck ?_ | refine cdT ?_ | refine cdF ?_ | refine gdY ?_ | refine gdFT ?_ | refine gdTF ?_ | refine gdU ?_ | refine gaY ?_ | refine gaFT ?_ | refine gaTF ?_ | refine pickT ?_ | refine pickF ?_ | refine bi_lss_t (by omega) ?_ | refine bi_lss_f (by omega) ?_ | refine bi_add64 (by omega) ?_ | refine bi_sub64 (by omega) ?_ | refine bi_eql_t (by omega) ?_ | refine bi_eql_f (by omega) ?_ | refine bi_neq_t (by omega) ?_ | refine bi_neq_f (by omega) ?_ | refine bi_gtr_t (by omega) ?_ | refine bi_gtr_f (by omega) ?_ | refine bi_leq_t (by omega) ?_ | refine bi_leq_f (by omega) ?_ | refine bi_geq_t (by omega) ?_ | refine bi_geq_f (by omega) ?_ | refine bi_xt0 ?_ | refine bi_xt1 ?_ | refine bi_xt2 ?_ | refine bi_xt3 ?_ | refine bi_T ?_ | refine bi_F ?_ | refine bi_not ?_ | refine bi_and ?_ | refine bi_or ?_ | refine bi_xor ?_ | refine bi_shr (by omega) (by decide) ?_ | refine bi_shl (by omega) (by decide) ?_ | refine bi_quo64 (by omega) ?_ | refine bi_rem64 (by omega) ?_ | refine bi_mul64 (by omega) ?_ | refine bi_neg ?_ | refine bi_un_xor32 ?_ | refine bi_add ?_ | refine bi_sub ?_ | refine bi_mul ?_ | refine bi_quo (by decide) ?_ | refine bi_rem (by decide) ?_)
  refine bi_eql_c (fun h0 => ?_) (fun h0 => ?_)
  · (repeat with_reducible first | refine nck ?_ | refine cdT ?_ | refine cdF ?_ | refine gdY ?_ | refine gdFT ?_ | refine gdTF ?_ | refine gdU ?_ | refine gaY ?_ | refine gaFT ?_ | refine gaTF ?_ | refine pickT ?_ | refine pickF ?_ | refine bi_lss_t (by omega) ?_ | refine bi_lss_f (by omega) ?_ | refine bi_add64 (by omega) ?_ | refine bi_sub64 (by omega) ?_ | refine bi_eql_t (by omega) ?_ | refine bi_eql_f (by omega) ?_ | refine bi_neq_t (by omega) ?_ | refine bi_neq_f (by omega) ?_ | refine bi_gtr_t (by omega) ?_ | refine bi_gtr_f (by omega) ?_ | refine bi_leq_t (by omega) ?_ | refine bi_leq_f (by omega) ?_ | refine bi_geq_t (by omega) ?_ | refine bi_geq_f (by omega) ?_ | refine bi_xt0 ?_ | refine bi_xt1 ?_ | refine bi_xt2 ?_ | refine bi_xt3 ?_ | refine bi_T ?_ | refine bi_F ?_ | refine bi_not ?_ | refine bi_and ?_ | refine bi_or ?_ | refine bi_xor ?_ | refine bi_shr (by omega) (by decide) ?_ | refine bi_shl (by omega) (by decide) ?_ | refine bi_quo64 (by omega) ?_ | refine bi_rem64 (by omega) ?_ | refine bi_mul64 (by omega) ?_ | refine bi_neg ?_ | refine bi_un_xor32 ?_ | refine bi_add ?_ | refine bi_sub ?_ | refine bi_mul ?_ | refine bi_quo (by decide) ?_ | refine bi_rem (by decide) ?_)
    exact ⟨tB (fun e => e.1 h0), rfl⟩
  · (repeat with_reducible first | refine fd k0 (by decide) ?_ | refine ld one26 d0 ?_ | refine nck ?_ | refine cdT ?_ | refine cdF ?_ | refine gdY ?_ | refine gdFT ?_ | refine gdTF ?_ | refine gdU ?_ | refine gaY ?_ | refine gaFT ?_ | refine gaTF ?_ | refine pickT ?_ | refine pickF ?_ | refine bi_lss_t (by omega) ?_ | refine bi_lss_f (by omega) ?_ | refine bi_add64 (by omega) ?_ | refine bi_sub64 (by omega) ?_ | refine bi_eql_t (by omega) ?_ | refine bi_eql_f (by omega) ?_ | refine bi_neq_t (by omega) ?_ | refine bi_neq_f (by omega) ?_ | refine bi_gtr_t (by omega) ?_ | refine bi_gtr_f (by omega) ?_ | refine bi_leq_t (by omega) ?_ | refine bi_leq_f (by omega) ?_ | refine bi_geq_t (by omega) ?_ | refine bi_geq_f (by omega) ?_ | refine bi_xt0 ?_ | refine bi_xt1 ?_ | refine bi_xt2 ?_ | refine bi_xt3 ?_ | refine bi_T ?_ | refine bi_F ?_ | refine bi_not ?_ | refine bi_and ?_ | refine bi_or ?_ | refine bi_xor ?_ | refine bi_shr (by omega) (by decide) ?_ | refine bi_shl (by omega) (by decide) ?_ | refine bi_quo64 (by omega) ?_ | refine bi_rem64 (by omega) ?_ | refine bi_mul64 (by omega) ?_ | refine bi_neg ?_ | refine bi_un_xor32 ?_ | refine bi_add ?_ | refine bi_sub ?_ | refine bi_mul ?_ | refine bi_quo (by decide) ?_ | refine bi_rem (by decide) ?_)
    obtain ⟨A, n, e, _⟩ := (OwnR.of_own h.own).slice
    rw [e]
    refine ln und26 ?_
    (repeat with_reducible first | refine nck ?_ | refine cdT ?_ | refine cdF ?_ | refine gdY ?_ | refine gdFT ?_ | refine gdTF ?_ | refine gdU ?_ | refine gaY ?_ | refine gaFT ?_ | refine gaTF ?_ | refine pickT ?_ | refine pickF ?_ | refine bi_lss_t (by omega) ?_ | refine bi_lss_f (by omega) ?_ | refine bi_add64 (by omega) ?_ | refine bi_sub64 (by omega) ?_ | refine bi_eql_t (by omega) ?_ | refine bi_eql_f (by omega) ?_ | refine bi_neq_t (by omega) ?_ | refine bi_neq_f (by omega) ?_ | refine bi_gtr_t (by omega) ?_ | refine bi_gtr_f (by omega) ?_ | refine bi_leq_t (by omega) ?_ | refine bi_leq_f (by omega) ?_ | refine bi_geq_t (by omega) ?_ | refine bi_geq_f (by omega) ?_ | refine bi_xt0 ?_ | refine bi_xt1 ?_ | refine bi_xt2 ?_ | refine bi_xt3 ?_ | refine bi_T ?_ | refine bi_F ?_ | refine bi_not ?_ | refine bi_and ?_ | refine bi_or ?_ | refine bi_xor ?_ | refine bi_shr (by omega) (by decide) ?_ | refine bi_shl (by omega) (by decide) ?_ | refine bi_quo64 (by omega) ?_ | refine bi_rem64 (by omega) ?_ | refine bi_mul64 (by omega) ?_ | refine bi_neg ?_ | refine bi_un_xor32 ?_ | refine bi_add ?_ | refine bi_sub ?_ | refine bi_mul ?_ | refine bi_quo (by decide) ?_ | refine bi_rem (by decide) ?_)
    refine bi_eql_c (fun h1 => ?_) (fun h1 => ?_)
    · (repeat with_reducible first | refine nck ?_ | refine cdT ?_ | refine cdF ?_ | refine gdY ?_ | refine gdFT ?_ | refine gdTF ?_ | refine gdU ?_ | refine gaY ?_ | refine gaFT ?_ | refine gaTF ?_ | refine pickT ?_ | refine pickF ?_ | refine bi_lss_t (by omega) ?_ | refine bi_lss_f (by omega) ?_ | refine bi_add64 (by omega) ?_ | refine bi_sub64 (by omega) ?_ | refine bi_eql_t (by omega) ?_ | refine bi_eql_f (by omega) ?_ | refine bi_neq_t (by omega) ?_ | refine bi_neq_f (by omega) ?_ | refine bi_gtr_t (by omega) ?_ | refine bi_gtr_f (by omega) ?_ | refine bi_leq_t (by omega) ?_ | refine bi_leq_f (by omega) ?_ | refine bi_geq_t (by omega) ?_ | refine bi_geq_f (by omega) ?_ | refine bi_xt0 ?_ | refine bi_xt1 ?_ | refine bi_xt2 ?_ | refine bi_xt3 ?_ | refine bi_T ?_ | refine bi_F ?_ | refine bi_not ?_ | refine bi_and ?_ | refine bi_or ?_ | refine bi_xor ?_ | refine bi_shr (by omega) (by decide) ?_ | refine bi_shl (by omega) (by decide) ?_ | refine bi_quo64 (by omega) ?_ | refine bi_rem64 (by omega) ?_ | refine bi_mul64 (by omega) ?_ | refine bi_neg ?_ | refine bi_un_xor32 ?_ | refine bi_add ?_ | refine bi_sub ?_ | refine bi_mul ?_ | refine bi_quo (by decide) ?_ | refine bi_rem (by decide) ?_)
      refine ⟨tB (fun e => e.2 (List.eq_nil_of_length_eq_zero (by omega))), rfl⟩
    · (repeat with_reducible first | refine nck ?_ | refine cdT ?_ | refine cdF ?_ | refine gdY ?_ | refine gdFT ?_ | refine gdTF ?_ | refine gdU ?_ | refine gaY ?_ | refine gaFT ?_ | refine gaTF ?_ | refine pickT ?_ | refine pickF ?_ | refine bi_lss_t (by omega) ?_ | refine bi_lss_f (by omega) ?_ | refine bi_add64 (by omega) ?_ | refine bi_sub64 (by omega) ?_ | refine bi_eql_t (by omega) ?_ | refine bi_eql_f (by omega) ?_ | refine bi_neq_t (by omega) ?_ | refine bi_neq_f (by omega) ?_ | refine bi_gtr_t (by omega) ?_ | refine bi_gtr_f (by omega) ?_ | refine bi_leq_t (by omega) ?_ | refine bi_leq_f (by omega) ?_ | refine bi_geq_t (by omega) ?_ | refine bi_geq_f (by omega) ?_ | refine bi_xt0 ?_ | refine bi_xt1 ?_ | refine bi_xt2 ?_ | refine bi_xt3 ?_ | refine bi_T ?_ | refine bi_F ?_ | refine bi_not ?_ | refine bi_and ?_ | refine bi_or ?_ | refine bi_xor ?_ | refine bi_shr (by omega) (by decide) ?_ | refine bi_shl (by omega) (by decide) ?_ | refine bi_quo64 (by omega) ?_ | refine bi_rem64 (by omega) ?_ | refine bi_mul64 (by omega) ?_ | refine bi_neg ?_ | refine bi_un_xor32 ?_ | refine bi_add ?_ | refine bi_sub ?_ | refine bi_mul ?_ | refine bi_quo (by decide) ?_ | refine bi_rem (by decide) ?_)
      refine ⟨fB (fun e => e ⟨h0, fun e => h1 (by rw [e]; rfl)⟩), rfl⟩
theorem sweepV_abs (T : List (Int × Hd)) (h : (T.map (·.1)).Nodup) : absT (T.filter fun p => decide (keepH p.2)) = fun j => (absT T j).bind sweepF := by
  funext j
  unfold absT
  rw [getK_filter_val _ j h]
  cases getK j T with
  | none => rfl
  | some H =>
    simp only [Option.bind_some, Option.map_some, Hd.abs, sweepF, keepH]
    by_cases h1 : H.left = 0 <;> by_cases h2 : H.L = [] <;> simp [h1, h2, Hd.abs]
theorem Sweep61 {hu : Nat} {c : Nat → Nat} {w : World} {g n : Nat} {le : Int} {V : LkV} (h : LkS hu c w g le n V) :
    CallP Try.prog 61 #[.pointer (some ⟨g, 0, none⟩)] (fun u w' => LeftL hu c w g le n (fun j => (V j).bind sweepF) w') w := by
  obtain ⟨bm, T, h, rfl, hTl⟩ := h
  refine ⟨S61.calls _ _ _ ?_⟩
  unfold S61
  have c1 : w.cell? ⟨g, 1, none⟩ = some (.map (some bm)) := h.blk.cell 1
  (repeat with_reducible first | refine fd t1 (by decide) ?_ | refine ld one70 c1 ?_ | refine nck ?_ | refine cdT ?_ | refine cdF ?_ | refine gdY ?_ | refine gdFT ?_ | refine gdTF ?_ | refine gdU ?_ | refine gaY ?_ | refine gaFT ?_ | refine gaTF ?_ | refine pickT ?_ | refine pickF ?_ | refine bi_lss_t (by omega) ?_ | refine bi_lss_f (by omega) ?_ | refine bi_add64 (by omega) ?_ | refine bi_sub64 (by omega) ?_ | refine bi_eql_t (by omega) ?_ | refine bi_eql_f (by omega) ?_ | refine bi_neq_t (by omega) ?_ | refine bi_neq_f (by omega) ?_ | refine bi_gtr_t (by omega) ?_ | refine bi_gtr_f (by omega) ?_ | refine bi_leq_t (by omega) ?_ | refine bi_leq_f (by omega) ?_ | refine bi_geq_t (by omega) ?_ | refine bi_geq_f (by omega) ?_ | refine bi_xt0 ?_ | refine bi_xt1 ?_ | refine bi_xt2 ?_ | refine bi_xt3 ?_ | refine bi_T ?_ | refine bi_F ?_ | refine bi_not ?_ | refine bi_and ?_ | refine bi_or ?_ | refine bi_xor ?_ | refine bi_shr (by omega) (by decide) ?_ | refine bi_shl (by omega) (by decide) ?_ | refine bi_quo64 (by omega) ?_ | refine bi_rem64 (by omega) ?_ | refine bi_mul64 (by omega) ?_ | refine bi_neg ?_ | refine bi_un_xor32 ?_ | refine bi_add ?_ | refine bi_sub ?_ | refine bi_mul ?_ | refine bi_quo (by decide) ?_ | refine bi_rem (by decide) ?_)
  have hnd := h.nodup
  have key : CallP Try.prog 70 #[.map (some bm), .func (.func 71) #[] #[]] (fun r w' => MapI w' bm ((T.filter fun p => decide (keepH p.2)).map fun p => (p.1, p.2.ptr)) ∧ Turns (fun k => k = bm) w w') w := by
    refine ⟨S70.calls _ _ _ _ ?_⟩
    unfold S70
    refine rng und70 h.map ?_
    intro w1 hm1 hbw1
    have hbl := h.map.lt
    have hTw1 : Turns (fun k => k = bm) w w1 := Turns.of_below hbw1
    generalize hr : w.heap.size = r at *
    refine LoopP.inv0n (fun n w' => ∃ todo : List Int, todo.length = n ∧ MapR w' bm r ((T.filter fun p => decide (p.1 ∈ todo ∨ keepH p.2)).map fun p => (p.1, p.2.ptr)) todo ∧ Turns (fun k => k = bm) w w') (T.map (·.1)).length ⟨T.map (·.1), rfl, ?_, hTw1⟩ ?_
    · have : (T.filter fun p => decide (p.1 ∈ T.map (·.1) ∨ keepH p.2)) = T := List.filter_eq_self.2 fun p hp => by
        simp only [decide_eq_true_eq]
        exact .inl (List.mem_map.2 ⟨p, hp, rfl⟩)
      rw [this]
      rw [List.map_map] at hm1
      exact hm1
    rintro n w2 ⟨todo, rfl, hm2, hT2⟩ J hJ
    refine nxt hm2 (fun e => ?_) ?_
    · (repeat with_reducible first | refine nck ?_ | refine cdT ?_ | refine cdF ?_ | refine gdY ?_ | refine gdFT ?_ | refine gdTF ?_ | refine gdU ?_ | refine gaY ?_ | refine gaFT ?_ | refine gaTF ?_ | refine pickT ?_ | refine pickF ?_ | refine bi_lss_t (by omega) ?_ | refine bi_lss_f (by omega) ?_ | refine bi_add64 (by omega) ?_ | refine bi_sub64 (by omega) ?_ | refine bi_eql_t (by omega) ?_ | refine bi_eql_f (by omega) ?_ | refine bi_neq_t (by omega) ?_ | refine bi_neq_f (by omega) ?_ | refine bi_gtr_t (by omega) ?_ | refine bi_gtr_f (by omega) ?_ | refine bi_leq_t (by omega) ?_ | refine bi_leq_f (by omega) ?_ | refine bi_geq_t (by omega) ?_ | refine bi_geq_f (by omega) ?_ | refine bi_xt0 ?_ | refine bi_xt1 ?_ | refine bi_xt2 ?_ | refine bi_xt3 ?_ | refine bi_T ?_ | refine bi_F ?_ | refine bi_not ?_ | refine bi_and ?_ | refine bi_or ?_ | refine bi_xor ?_ | refine bi_shr (by omega) (by decide) ?_ | refine bi_shl (by omega) (by decide) ?_ | refine bi_quo64 (by omega) ?_ | refine bi_rem64 (by omega) ?_ | refine bi_mul64 (by omega) ?_ | refine bi_neg ?_ | refine bi_un_xor32 ?_ | refine bi_add ?_ | refine bi_sub ?_ | refine bi_mul ?_ | refine bi_quo (by decide) ?_ | refine bi_rem (by decide) ?_)
      subst e
      have : (T.filter fun p => decide (p.1 ∈ ([] : List Int) ∨ keepH p.2)) = T.filter fun p => decide (keepH p.2) := List.filter_congr fun p _ => by simp
      rw [this] at hm2
      exact ⟨hm2.map, hT2⟩
    · intro k v w3 hk hget hm3 hT3 hent
      have hT3' : Turns (fun k => k = bm) w w3 := hT2.trans (hT3.mono fun j _ e => .inr (by omega))
      rw [getK_map Hd.ptr] at hget
      obtain ⟨H, hgm, rfl⟩ := Option.map_eq_some_iff.1 hget
      have hmem : (k, H) ∈ T := (List.mem_filter.1 (getK_mem _ _ _ hgm)).1
      have hH := (h.el _ hmem).2.turns hT3' (fun j hj e => by rw [hj, h.huem] at e; exact hueC_ne hu _ e.symm)
      (repeat with_reducible first | refine nck ?_ | refine cdT ?_ | refine cdF ?_ | refine gdY ?_ | refine gdFT ?_ | refine gdTF ?_ | refine gdU ?_ | refine gaY ?_ | refine gaFT ?_ | refine gaTF ?_ | refine pickT ?_ | refine pickF ?_ | refine bi_lss_t (by omega) ?_ | refine bi_lss_f (by omega) ?_ | refine bi_add64 (by omega) ?_ | refine bi_sub64 (by omega) ?_ | refine bi_eql_t (by omega) ?_ | refine bi_eql_f (by omega) ?_ | refine bi_neq_t (by omega) ?_ | refine bi_neq_f (by omega) ?_ | refine bi_gtr_t (by omega) ?_ | refine bi_gtr_f (by omega) ?_ | refine bi_leq_t (by omega) ?_ | refine bi_leq_f (by omega) ?_ | refine bi_geq_t (by omega) ?_ | refine bi_geq_f (by omega) ?_ | refine bi_xt0 ?_ | refine bi_xt1 ?_ | refine bi_xt2 ?_ | refine bi_xt3 ?_ | refine bi_T ?_ | refine bi_F ?_ | refine bi_not ?_ | refine bi_and ?_ | refine bi_or ?_ | refine bi_xor ?_ | refine bi_shr (by omega) (by decide) ?_ | refine bi_shl (by omega) (by decide) ?_ | refine bi_quo64 (by omega) ?_ | refine bi_rem64 (by omega) ?_ | refine bi_mul64 (by omega) ?_ | refine bi_neg ?_ | refine bi_un_xor32 ?_ | refine bi_add ?_ | refine bi_sub ?_ | refine bi_mul ?_ | refine bi_quo (by decide) ?_ | refine bi_rem (by decide) ?_)
      refine lift hent ?_
      (repeat with_reducible first | refine nck ?_ | refine cdT ?_ | refine cdF ?_ | refine gdY ?_ | refine gdFT ?_ | refine gdTF ?_ | refine gdU ?_ | refine gaY ?_ | refine gaFT ?_ | refine gaTF ?_ | refine pickT ?_ | refine pickF ?_ | refine bi_lss_t (by omega) ?_ | refine bi_lss_f (by omega) ?_ | refine bi_add64 (by omega) ?_ | refine bi_sub64 (by omega) ?_ | refine bi_eql_t (by omega) ?_ | refine bi_eql_f (by omega) ?_ | refine bi_neq_t (by omega) ?_ | refine bi_neq_f (by omega) ?_ | refine bi_gtr_t (by omega) ?_ | refine bi_gtr_f (by omega) ?_ | refine bi_leq_t (by omega) ?_ | refine bi_leq_f (by omega) ?_ | refine bi_geq_t (by omega) ?_ | refine bi_geq_f (by omega) ?_ | refine bi_xt0 ?_ | refine bi_xt1 ?_ | refine bi_xt2 ?_ | refine bi_xt3 ?_ | refine bi_T ?_ | refine bi_F ?_ | refine bi_not ?_ | refine bi_and ?_ | refine bi_or ?_ | refine bi_xor ?_ | refine bi_shr (by omega) (by decide) ?_ | refine bi_shl (by omega) (by decide) ?_ | refine bi_quo64 (by omega) ?_ | refine bi_rem64 (by omega) ?_ | refine bi_mul64 (by omega) ?_ | refine bi_neg ?_ | refine bi_un_xor32 ?_ | refine bi_add ?_ | refine bi_sub ?_ | refine bi_mul ?_ | refine bi_quo (by decide) ?_ | refine bi_rem (by decide) ?_)
      refine cvl (by kernel_rfl) ?_
      show CallP Try.prog 71 #[.int .i64 k, H.ptr] _ w3
      refine (sweep71 k hH).mono ?_
      rintro _ _ ⟨rfl, rfl⟩
      have hlt : (todo.filter fun j => decide (j ≠ k)).length < todo.length := by
        rw [List.length_filter_lt_length_iff_exists]
        exact ⟨k, hk, by simp⟩
      have hnotin : k ∉ todo.filter fun j => decide (j ≠ k) := by simp
      have huniq : ∀ p ∈ T, p.1 = k → p.2 = H := fun p hp e => by
        have h1 : getK k T = some p.2 := getK_of_mem hnd (by rw [← e]; exact hp)
        rw [getK_of_mem hnd hmem] at h1
        cases h1; rfl
      refine CondP.dec (fun hle => ?_) (fun hle => ?_)
      · refine dltR und70 und3 hm3 hnotin ?_
        intro w6 hm6 hT6
        refine hJ _ _ hlt ⟨_, rfl, ?_, hT3'.trans (hT6.mono fun j _ e => .inl e)⟩
        rw [delK_map Hd.ptr, delK_filter k _ ((List.Sublist.map _ List.filter_sublist).nodup hnd), List.filter_filter] at hm6
        have : (T.filter fun p => decide (p.1 ≠ k) && decide (p.1 ∈ todo ∨ keepH p.2)) = T.filter fun p => decide (p.1 ∈ (todo.filter fun j => decide (j ≠ k)) ∨ keepH p.2) := List.filter_congr fun p hp => by
          rw [← Bool.decide_and]
          refine decide_eq_decide.2 ?_
          rw [List.mem_filter]
          simp only [decide_eq_true_eq]
          constructor
          · rintro ⟨h1, h2 | h2⟩
            · exact .inl ⟨h2, h1⟩
            · exact .inr h2
          · rintro (⟨h1, h2⟩ | h2)
            · exact ⟨h2, .inl h1⟩
            · exact ⟨fun e => hle (by rw [← huniq p hp e]; exact h2), .inr h2⟩
        rw [this] at hm6
        exact hm6
      · refine hJ _ _ hlt ⟨_, rfl, ?_, hT3'⟩
        have : (T.filter fun p => decide (p.1 ∈ todo ∨ keepH p.2)) = T.filter fun p => decide (p.1 ∈ (todo.filter fun j => decide (j ≠ k)) ∨ keepH p.2) := List.filter_congr fun p hp => by
          refine decide_eq_decide.2 ?_
          rw [List.mem_filter]
          simp only [decide_eq_true_eq]
          constructor
          · rintro (h1 | h2)
            · by_cases e : p.1 = k
              · exact .inr (by rw [huniq p hp e]; exact Classical.not_not.1 hle)
              · exact .inl ⟨h1, e⟩
            · exact .inr h2
          · rintro (h1 | h2)
            · exact .inl h1.1
            · exact .inr h2
        rw [this] at hm3
        exact hm3
  refine key.mono ?_
  rintro _ w1 ⟨hm1, hT1⟩
  have hfl : (T.filter fun p => decide (keepH p.2)).length ≤ T.length := List.length_filter_le _ _
  refine ⟨c, fun _ _ => rfl, ⟨bm, _, ⟨h.hh, h.hue, h.huem, h.blk.turns hT1 h.ne, hm1, fun p hp => ?_⟩, sweepV_abs T hnd, by omega⟩, hT1.mono fun k _ e => by rw [e, Dh, h.huem, Nat.mod_eq_of_lt h.hh.2]⟩
  have hm := (List.mem_filter.1 hp).1
  exact ⟨(h.el p hm).1, (h.el p hm).2.turns hT1 (fun k hk e => by rw [hk, h.huem] at e; exact hueC_ne hu _ e.symm)⟩
end Go.Proofs.Ytcihbjempijhpaa.E
/- The table of locks: Tick, Lose, Take. -/
namespace Go.Proofs.Ytcihbjempijhpaa.E
open Go Go.RowKit
set_option linter.unusedSimpArgs false
set_option linter.unusedVariables false

theorem HdAt.vne {c : Nat → Nat} {x : Nat} {w : World} {H : Hd} (h : HdAt c x w H) : ∀ k, H.v.ownBlock = some k → k ≠ H.gh := fun k hk e => by
  rcases h.own.2 with ⟨h', _⟩ | ⟨g', _, _, h', _, hbl, _⟩
  · rw [h'] at hk; cases hk
  · rw [h'] at hk
    cases hk
    exact blk_ne h.blk hbl (by decide) e.symm
theorem mem_left {todo : List Int} {k j : Int} (f : Option (List Rg × Int) → Option (List Rg × Int)) (v : Option (List Rg × Int)) (hk : k ∈ todo) : (if j ∈ todo.filter (fun i => decide (i ≠ k)) then v else f v) = if j = k then f v else if j ∈ todo then v else f v := by
  by_cases hj : j = k
  · subst hj
    rw [if_pos rfl, if_neg (by simp)]
  · rw [if_neg hj]
    by_cases hm : j ∈ todo
    · rw [if_pos hm, if_pos (List.mem_filter.2 ⟨hm, by simpa using hj⟩)]
    · rw [if_neg hm, if_neg (fun e => hm (List.mem_filter.1 e).1)]
/-- Where the ranging over a table stands: the locks that have come are turned by f. -/
structure RngAt (hu : Nat) (c : Nat → Nat) (w0 w : World) (g bm r : Nat) (le : Int) (n : Nat) (V : LkV) (f : List Rg × Int → List Rg × Int) (todo : List Int) (c' : Nat → Nat) (T : List (Int × Hd)) : Prop where
  ext : ∀ k, k < w0.heap.size → c' k = c k
  at_ : LkAt hu c' w g bm le T
  rng : MapR w bm r (T.map fun p => (p.1, p.2.ptr)) todo
  abs : absT T = fun j => if j ∈ todo then V j else (V j).map f
  len : T.length ≤ n
  turn : Turns (Dh hu c) w0 w
theorem Tick33 {hu : Nat} {c : Nat → Nat} {w : World} {g n : Nat} {le : Int} {V : LkV} (h : LkS hu c w g le n V) (hok : ∀ id L left, V id = some (L, left) → -9223372036854775807 ≤ left ∧ left ≤ 9223372036854775807) :
    CallP Try.prog 33 #[.pointer (some ⟨g, 0, none⟩)] (fun u w' => LeftL hu c w g le n (tickV V) w') w := by
  obtain ⟨bm, T0, h, hV, hTl⟩ := h
  refine ⟨S33.calls _ _ _ ?_⟩
  unfold S33
  have c1 : w.cell? ⟨g, 1, none⟩ = some (.map (some bm)) := h.blk.cell 1
  (repeat with_reducible first | refine fd t1 (by decide) ?_ | refine ld one70 c1 ?_ | refine nck ?_ | refine cdT ?_ | refine cdF ?_ | refine gdY ?_ | refine gdFT ?_ | refine gdTF ?_ | refine gdU ?_ | refine gaY ?_ | refine gaFT ?_ | refine gaTF ?_ | refine pickT ?_ | refine pickF ?_ | refine bi_lss_t (by omega) ?_ | refine bi_lss_f (by omega) ?_ | refine bi_add64 (by omega) ?_ | refine bi_sub64 (by omega) ?_ | refine bi_eql_t (by omega) ?_ | refine bi_eql_f (by omega) ?_ | refine bi_neq_t (by omega) ?_ | refine bi_neq_f (by omega) ?_ | refine bi_gtr_t (by omega) ?_ | refine bi_gtr_f (by omega) ?_ | refine bi_leq_t (by omega) ?_ | refine bi_leq_f (by omega) ?_ | refine bi_geq_t (by omega) ?_ | refine bi_geq_f (by omega) ?_ | refine bi_xt0 ?_ | refine bi_xt1 ?_ | refine bi_xt2 ?_ | refine bi_xt3 ?_ | refine bi_T ?_ | refine bi_F ?_ | refine bi_not ?_ | refine bi_and ?_ | refine bi_or ?_ | refine bi_xor ?_ | refine bi_shr (by omega) (by decide) ?_ | refine bi_shl (by omega) (by decide) ?_ | refine bi_quo64 (by omega) ?_ | refine bi_rem64 (by omega) ?_ | refine bi_mul64 (by omega) ?_ | refine bi_neg ?_ | refine bi_un_xor32 ?_ | refine bi_add ?_ | refine bi_sub ?_ | refine bi_mul ?_ | refine bi_quo (by decide) ?_ | refine bi_rem (by decide) ?_)
  refine rng und70 h.map ?_
  intro w1 hm1 hb1
  have hs1 := hb1.size
  generalize hr : w.heap.size = r at *
  have hsub : ∀ id, V id ≠ none → id ∈ T0.map (·.1) := fun id hv => by
    rw [← hV] at hv
    unfold absT at hv
    cases hx : getK id T0 with
    | none => rw [hx] at hv; exact absurd rfl hv
    | some H => exact List.mem_map.2 ⟨_, getK_mem _ _ _ hx, rfl⟩
  refine LoopP.inv0n (fun m w' => ∃ (todo : List Int) (c' : Nat → Nat) (T : List (Int × Hd)), todo.length = m ∧ RngAt hu c w w' g bm r le n V (fun p => (p.1, p.2 - 1)) todo c' T) _
    ⟨T0.map (·.1), c, T0, rfl, fun _ _ => rfl, h.below (by rw [hr]; exact hb1), by rw [List.map_map] at hm1; exact hm1, ?_, hTl, Turns.of_below (by rw [hr]; exact hb1)⟩ ?_
  · rw [hV]
    funext j
    split
    · rfl
    · rename_i hn
      cases hv : V j with
      | none => rfl
      | some p => exact absurd (hsub j (by rw [hv]; simp)) hn
  rintro m w2 ⟨todo, c', T, rfl, R⟩ J hJ
  refine nxt R.rng (fun e => ?_) ?_
  · subst e
    (repeat with_reducible first | refine nck ?_ | refine cdT ?_ | refine cdF ?_ | refine gdY ?_ | refine gdFT ?_ | refine gdTF ?_ | refine gdU ?_ | refine gaY ?_ | refine gaFT ?_ | refine gaTF ?_ | refine pickT ?_ | refine pickF ?_ | refine bi_lss_t (by omega) ?_ | refine bi_lss_f (by omega) ?_ | refine bi_add64 (by omega) ?_ | refine bi_sub64 (by omega) ?_ | refine bi_eql_t (by omega) ?_ | refine bi_eql_f (by omega) ?_ | refine bi_neq_t (by omega) ?_ | refine bi_neq_f (by omega) ?_ | refine bi_gtr_t (by omega) ?_ | refine bi_gtr_f (by omega) ?_ | refine bi_leq_t (by omega) ?_ | refine bi_leq_f (by omega) ?_ | refine bi_geq_t (by omega) ?_ | refine bi_geq_f (by omega) ?_ | refine bi_xt0 ?_ | refine bi_xt1 ?_ | refine bi_xt2 ?_ | refine bi_xt3 ?_ | refine bi_T ?_ | refine bi_F ?_ | refine bi_not ?_ | refine bi_and ?_ | refine bi_or ?_ | refine bi_xor ?_ | refine bi_shr (by omega) (by decide) ?_ | refine bi_shl (by omega) (by decide) ?_ | refine bi_quo64 (by omega) ?_ | refine bi_rem64 (by omega) ?_ | refine bi_mul64 (by omega) ?_ | refine bi_neg ?_ | refine bi_un_xor32 ?_ | refine bi_add ?_ | refine bi_sub ?_ | refine bi_mul ?_ | refine bi_quo (by decide) ?_ | refine bi_rem (by decide) ?_)
    refine (Sweep61 ⟨bm, T, R.at_, rfl, R.len⟩).mono ?_
    rintro _ w3 ⟨c3, hc3, hS3, hT3⟩
    refine ⟨c3, fun k hk => (hc3 k (Nat.lt_of_lt_of_le hk R.turn.size)).trans (R.ext k hk), ?_, R.turn.stepH (fun k hk => R.ext k hk) hT3⟩
    have e : (fun j => (absT T j).bind sweepF) = tickV V := by
      rw [R.abs]
      funext j
      show (if j ∈ ([] : List Int) then V j else (V j).map fun p => (p.1, p.2 - 1)).bind sweepF = _
      rw [if_neg (by simp), Option.bind_map]
      rfl
    rw [← e]
    exact hS3
  · intro k v w3 hk hget hm3 hT3 hent
    rw [getK_map Hd.ptr] at hget
    obtain ⟨H, hx, rfl⟩ := Option.map_eq_some_iff.1 hget
    have hmem := getK_mem _ _ _ hx
    have hlt : (todo.filter fun j => decide (j ≠ k)).length < todo.length := by
      rw [List.length_filter_lt_length_iff_exists]
      exact ⟨k, hk, by simp⟩
    have hrne : ∀ {t : TypeId} {cs : Array Value} {q : Nat}, Blk w2 q t cs → q ≠ r := fun hb => MapR.neb R.rng hb
    have hbr : bm ≠ r := (MapR.ne R.rng).symm
    have h3 : LkAt hu c' w3 g bm le T := ⟨R.at_.hh, R.at_.hue, R.at_.huem, R.at_.blk.turns hT3 (hrne R.at_.blk), R.at_.map.turns hT3 hbr, fun p hp => ⟨(R.at_.el p hp).1, by
      have hp := (R.at_.el p hp).2
      refine ⟨hp.hue, hp.blk.turns hT3 (hrne hp.blk), ownsRow_turns hp.own hT3 (fun q hq e => ?_), hp.huev⟩
      rcases hp.own.2 with ⟨h', _⟩ | ⟨g', _, _, h', _, hbl, _⟩
      · rw [h'] at hq; cases hq
      · rw [h'] at hq; cases hq; exact hrne hbl e⟩⟩
    have hT3' : Turns (Dh hu c) w w3 := R.turn.trans (hT3.mono fun j _ e => .inr (by rw [e, hr]; exact Nat.le_refl _))
    obtain ⟨hid, hH⟩ := h3.el _ hmem
    have d1 : w3.cell? ⟨H.gh, 1, none⟩ = some (.int .i64 H.left) := hH.blk.cell 1
    have hvk : V k = some (H.L, H.left) := by
      have : absT T k = if k ∈ todo then V k else (V k).map fun p => (p.1, p.2 - 1) := congrFun R.abs k
      rw [if_pos hk] at this
      rw [← this, absT, hx]; rfl
    obtain ⟨b1, b2⟩ := hok k _ _ hvk
    (repeat with_reducible first | refine nck ?_ | refine cdT ?_ | refine cdF ?_ | refine gdY ?_ | refine gdFT ?_ | refine gdTF ?_ | refine gdU ?_ | refine gaY ?_ | refine gaFT ?_ | refine gaTF ?_ | refine pickT ?_ | refine pickF ?_ | refine bi_lss_t (by omega) ?_ | refine bi_lss_f (by omega) ?_ | refine bi_add64 (by omega) ?_ | refine bi_sub64 (by omega) ?_ | refine bi_eql_t (by omega) ?_ | refine bi_eql_f (by omega) ?_ | refine bi_neq_t (by omega) ?_ | refine bi_neq_f (by omega) ?_ | refine bi_gtr_t (by omega) ?_ | refine bi_gtr_f (by omega) ?_ | refine bi_leq_t (by omega) ?_ | refine bi_leq_f (by omega) ?_ | refine bi_geq_t (by omega) ?_ | refine bi_geq_f (by omega) ?_ | refine bi_xt0 ?_ | refine bi_xt1 ?_ | refine bi_xt2 ?_ | refine bi_xt3 ?_ | refine bi_T ?_ | refine bi_F ?_ | refine bi_not ?_ | refine bi_and ?_ | refine bi_or ?_ | refine bi_xor ?_ | refine bi_shr (by omega) (by decide) ?_ | refine bi_shl (by omega) (by decide) ?_ | refine bi_quo64 (by omega) ?_ | refine bi_rem64 (by omega) ?_ | refine bi_mul64 (by omega) ?_ | refine bi_neg ?_ | refine bi_un_xor32 ?_ | refine bi_add ?_ | refine bi_sub ?_ | refine bi_mul ?_ | refine bi_quo (by decide) ?_ | refine bi_rem (by decide) ?_)
    refine lift hent ?_
    unfold Hd.ptr
    (repeat with_reducible first | refine fd k1 (by decide) ?_ | refine ld one3' d1 ?_ | refine nck ?_ | refine cdT ?_ | refine cdF ?_ | refine gdY ?_ | refine gdFT ?_ | refine gdTF ?_ | refine gdU ?_ | refine gaY ?_ | refine gaFT ?_ | refine gaTF ?_ | refine pickT ?_ | refine pickF ?_ | refine bi_lss_t (by omega) ?_ | refine bi_lss_f (by omega) ?_ | refine bi_add64 (by omega) ?_ | refine bi_sub64 (by omega) ?_ | refine bi_eql_t (by omega) ?_ | refine bi_eql_f (by omega) ?_ | refine bi_neq_t (by omega) ?_ | refine bi_neq_f (by omega) ?_ | refine bi_gtr_t (by omega) ?_ | refine bi_gtr_f (by omega) ?_ | refine bi_leq_t (by omega) ?_ | refine bi_leq_f (by omega) ?_ | refine bi_geq_t (by omega) ?_ | refine bi_geq_f (by omega) ?_ | refine bi_xt0 ?_ | refine bi_xt1 ?_ | refine bi_xt2 ?_ | refine bi_xt3 ?_ | refine bi_T ?_ | refine bi_F ?_ | refine bi_not ?_ | refine bi_and ?_ | refine bi_or ?_ | refine bi_xor ?_ | refine bi_shr (by omega) (by decide) ?_ | refine bi_shl (by omega) (by decide) ?_ | refine bi_quo64 (by omega) ?_ | refine bi_rem64 (by omega) ?_ | refine bi_mul64 (by omega) ?_ | refine bi_neg ?_ | refine bi_un_xor32 ?_ | refine bi_add ?_ | refine bi_sub ?_ | refine bi_mul ?_ | refine bi_quo (by decide) ?_ | refine bi_rem (by decide) ?_)
    refine st sz3' rfl (by rw [hH.blk.cell 1]; rfl) (hH.blk.frozen 1) ?_
    have hT := Turns.setCell (F := fun k => k = H.gh) (p := ⟨H.gh, 1, none⟩) (Turns.refl _ w3) (.inl rfl) (.int .i64 (H.left - 1))
    have hB := hH.blk.set_ 1 (.int .i64 (H.left - 1))
    obtain ⟨q1, q2, q3⟩ := h3.put (c' := c') (fun _ _ => rfl) (H1 := ⟨H.gh, H.v, H.L, H.left - 1⟩) hx rfl hT (fun k _ e => by rw [e]; exact hH.hue) ⟨hH.hue, hB, ownsRow_turns hH.own hT hH.vne, hH.huev⟩
    refine hJ _ _ hlt ⟨_, c', _, rfl, R.ext, q1, ?_, ?_, by rw [q3]; exact R.len, hT3'.trans (hT.mono fun j hj e => ?_)⟩
    · rw [setK_same Hd.ptr (v := ⟨H.gh, H.v, H.L, H.left - 1⟩) (v0 := H) rfl hx]
      exact hm3.turns hT (fun e => map_ne hH.blk h3.map e.symm) (fun e => MapR.neb hm3 hH.blk e.symm)
    · rw [q2]
      funext j
      rw [mem_left (fun o => o.map fun p => (p.1, p.2 - 1)) (V j) hk]
      by_cases hj : j = k
      · subst hj
        rw [if_pos rfl, if_pos rfl, hvk]; rfl
      · rw [if_neg hj, if_neg hj]
        exact congrFun R.abs j
    · rcases Nat.lt_or_ge j w.heap.size with hlt' | hge
      · left
        rw [e, Dh, ← R.ext _ (by rw [← e]; exact hlt'), hH.hue, hueC_mod h3.hh.2]
      · exact .inr hge
end Go.Proofs.Ytcihbjempijhpaa.E
/- The table of locks: Lose, Take. -/
namespace Go.Proofs.Ytcihbjempijhpaa.E
open Go Go.RowKit
set_option linter.unusedSimpArgs false
set_option linter.unusedVariables false

/-- Behind a step of the ranging: only the ranging's own block has turned. -/
theorem LkAt.stepR {hu : Nat} {c : Nat → Nat} {w w' : World} {g bm r : Nat} {le : Int} {T : List (Int × Hd)} {l : List (Int × Value)} {todo : List Int} (h : LkAt hu c w g bm le T) (hm : MapR w bm r l todo) (hT : Turns (fun k => k = r) w w') : LkAt hu c w' g bm le T := by
  have hrne : ∀ {t : TypeId} {cs : Array Value} {q : Nat}, Blk w q t cs → q ≠ r := fun hb => MapR.neb hm hb
  have hbr : bm ≠ r := (MapR.ne hm).symm
  refine ⟨h.hh, h.hue, h.huem, h.blk.turns hT (hrne h.blk), h.map.turns hT hbr, fun p hp => ⟨(h.el p hp).1, ?_⟩⟩
  have hp := (h.el p hp).2
  refine ⟨hp.hue, hp.blk.turns hT (hrne hp.blk), ownsRow_turns hp.own hT (fun q hq e => ?_), hp.huev⟩
  rcases hp.own.2 with ⟨h', _⟩ | ⟨g', _, _, h', _, hbl, _⟩
  · rw [h'] at hq; cases hq
  · rw [h'] at hq; cases hq; exact hrne hbl e
theorem keys_of (T : List (Int × Hd)) : ∀ id, absT T id ≠ none → id ∈ T.map (·.1) := fun id hv => by
  unfold absT at hv
  cases hx : getK id T with
  | none => rw [hx] at hv; exact absurd rfl hv
  | some H => exact List.mem_map.2 ⟨_, getK_mem _ _ _ hx, rfl⟩
theorem start_abs (T : List (Int × Hd)) (f : List Rg × Int → List Rg × Int) : absT T = fun j => if j ∈ T.map (·.1) then absT T j else (absT T j).map f := by
  funext j
  split
  · rfl
  · rename_i hn
    cases hv : absT T j with
    | none => rfl
    | some p => exact absurd (keys_of T j (by rw [hv]; simp)) hn
theorem Lose36 {hu : Nat} {c : Nat → Nat} {w : World} {g n : Nat} {le : Int} {V : LkV} (r : Rg) (h : LkS hu c w g le n V) (hok : LkOk 500 le V) :
    CallP Try.prog 36 #[.pointer (some ⟨g, 0, none⟩), rgV r] (fun u w' => LeftL hu c w g le n (loseV V r) w') w := by
  obtain ⟨bm, T0, h0, hV, hTl⟩ := h
  refine ⟨S36.calls _ _ _ _ ?_⟩
  unfold S36
  refine bxB ?_
  intro gr w1 hgr hR1 hb1
  have h1 := h0.below hb1
  have c1 : w1.cell? ⟨g, 1, none⟩ = some (.map (some bm)) := h1.blk.cell 1
  (repeat with_reducible first | refine fd t1 (by decide) ?_ | refine ld one70 c1 ?_ | refine nck ?_ | refine cdT ?_ | refine cdF ?_ | refine gdY ?_ | refine gdFT ?_ | refine gdTF ?_ | refine gdU ?_ | refine gaY ?_ | refine gaFT ?_ | refine gaTF ?_ | refine pickT ?_ | refine pickF ?_ | refine bi_lss_t (by omega) ?_ | refine bi_lss_f (by omega) ?_ | refine bi_add64 (by omega) ?_ | refine bi_sub64 (by omega) ?_ | refine bi_eql_t (by omega) ?_ | refine bi_eql_f (by omega) ?_ | refine bi_neq_t (by omega) ?_ | refine bi_neq_f (by omega) ?_ | refine bi_gtr_t (by omega) ?_ | refine bi_gtr_f (by omega) ?_ | refine bi_leq_t (by omega) ?_ | refine bi_leq_f (by omega) ?_ | refine bi_geq_t (by omega) ?_ | refine bi_geq_f (by omega) ?_ | refine bi_xt0 ?_ | refine bi_xt1 ?_ | refine bi_xt2 ?_ | refine bi_xt3 ?_ | refine bi_T ?_ | refine bi_F ?_ | refine bi_not ?_ | refine bi_and ?_ | refine bi_or ?_ | refine bi_xor ?_ | refine bi_shr (by omega) (by decide) ?_ | refine bi_shl (by omega) (by decide) ?_ | refine bi_quo64 (by omega) ?_ | refine bi_rem64 (by omega) ?_ | refine bi_mul64 (by omega) ?_ | refine bi_neg ?_ | refine bi_un_xor32 ?_ | refine bi_add ?_ | refine bi_sub ?_ | refine bi_mul ?_ | refine bi_quo (by decide) ?_ | refine bi_rem (by decide) ?_)
  refine rng und70 h1.map ?_
  intro w2 hm2 hb2
  have hs1 := hb1.size
  generalize hr : w1.heap.size = it at *
  have hb2' : Below w.heap.size w w2 := hb1.trans (hb2.mono hs1)
  refine LoopP.inv0n (fun m w' => ∃ (todo : List Int) (c' : Nat → Nat) (T : List (Int × Hd)), todo.length = m ∧ RngAt hu c w w' g bm it le n V (fun p => (mns p.1 r, p.2)) todo c' T ∧ Blk w' gr 23 (rgA r)) _
    ⟨T0.map (·.1), c, T0, rfl, ⟨fun _ _ => rfl, h1.below (by rw [hr]; exact hb2), by rw [List.map_map] at hm2; exact hm2, by rw [← hV]; exact start_abs T0 _, hTl, Turns.of_below hb2'⟩, hR1.below' (by rw [hr]; exact hb2)⟩ ?_
  rintro m w3 ⟨todo, c', T, rfl, R, hR3⟩ J hJ
  refine nxt R.rng (fun e => ?_) ?_
  · subst e
    (repeat with_reducible first | refine nck ?_ | refine cdT ?_ | refine cdF ?_ | refine gdY ?_ | refine gdFT ?_ | refine gdTF ?_ | refine gdU ?_ | refine gaY ?_ | refine gaFT ?_ | refine gaTF ?_ | refine pickT ?_ | refine pickF ?_ | refine bi_lss_t (by omega) ?_ | refine bi_lss_f (by omega) ?_ | refine bi_add64 (by omega) ?_ | refine bi_sub64 (by omega) ?_ | refine bi_eql_t (by omega) ?_ | refine bi_eql_f (by omega) ?_ | refine bi_neq_t (by omega) ?_ | refine bi_neq_f (by omega) ?_ | refine bi_gtr_t (by omega) ?_ | refine bi_gtr_f (by omega) ?_ | refine bi_leq_t (by omega) ?_ | refine bi_leq_f (by omega) ?_ | refine bi_geq_t (by omega) ?_ | refine bi_geq_f (by omega) ?_ | refine bi_xt0 ?_ | refine bi_xt1 ?_ | refine bi_xt2 ?_ | refine bi_xt3 ?_ | refine bi_T ?_ | refine bi_F ?_ | refine bi_not ?_ | refine bi_and ?_ | refine bi_or ?_ | refine bi_xor ?_ | refine bi_shr (by omega) (by decide) ?_ | refine bi_shl (by omega) (by decide) ?_ | refine bi_quo64 (by omega) ?_ | refine bi_rem64 (by omega) ?_ | refine bi_mul64 (by omega) ?_ | refine bi_neg ?_ | refine bi_un_xor32 ?_ | refine bi_add ?_ | refine bi_sub ?_ | refine bi_mul ?_ | refine bi_quo (by decide) ?_ | refine bi_rem (by decide) ?_)
    refine (Sweep61 ⟨bm, T, R.at_, rfl, R.len⟩).mono ?_
    rintro _ w4 ⟨c4, hc4, hS4, hT4⟩
    refine ⟨c4, fun k hk => (hc4 k (Nat.lt_of_lt_of_le hk R.turn.size)).trans (R.ext k hk), ?_, R.turn.stepH (fun k hk => R.ext k hk) hT4⟩
    have e : (fun j => (absT T j).bind sweepF) = loseV V r := by
      rw [R.abs]
      funext j
      show (if j ∈ ([] : List Int) then V j else (V j).map fun p => (mns p.1 r, p.2)).bind sweepF = _
      rw [if_neg (by simp), Option.bind_map]
      rfl
    rw [← e]
    exact hS4
  · intro k v w4 hk hget hm4 hT4 hent
    rw [getK_map Hd.ptr] at hget
    obtain ⟨H, hx, rfl⟩ := Option.map_eq_some_iff.1 hget
    have hmem := getK_mem _ _ _ hx
    have hlt : (todo.filter fun j => decide (j ≠ k)).length < todo.length := by
      rw [List.length_filter_lt_length_iff_exists]
      exact ⟨k, hk, by simp⟩
    have h4 : LkAt hu c' w4 g bm le T := R.at_.stepR R.rng hT4
    have hR4 := hR3.turns hT4 (MapR.neb R.rng hR3)
    have hT4' : Turns (Dh hu c) w w4 := R.turn.trans (hT4.mono fun j _ e => .inr (by rw [e]; exact hs1))
    obtain ⟨hid, hH⟩ := h4.el _ hmem
    have hvk : V k = some (H.L, H.left) := by
      have : absT T k = if k ∈ todo then V k else (V k).map fun p => (mns p.1 r, p.2) := congrFun R.abs k
      rw [if_pos hk] at this
      rw [← this, absT, hx]; rfl
    obtain ⟨_, _, _, hlen, _⟩ := hok k _ _ hvk
    (repeat with_reducible first | refine nck ?_ | refine cdT ?_ | refine cdF ?_ | refine gdY ?_ | refine gdFT ?_ | refine gdTF ?_ | refine gdU ?_ | refine gaY ?_ | refine gaFT ?_ | refine gaTF ?_ | refine pickT ?_ | refine pickF ?_ | refine bi_lss_t (by omega) ?_ | refine bi_lss_f (by omega) ?_ | refine bi_add64 (by omega) ?_ | refine bi_sub64 (by omega) ?_ | refine bi_eql_t (by omega) ?_ | refine bi_eql_f (by omega) ?_ | refine bi_neq_t (by omega) ?_ | refine bi_neq_f (by omega) ?_ | refine bi_gtr_t (by omega) ?_ | refine bi_gtr_f (by omega) ?_ | refine bi_leq_t (by omega) ?_ | refine bi_leq_f (by omega) ?_ | refine bi_geq_t (by omega) ?_ | refine bi_geq_f (by omega) ?_ | refine bi_xt0 ?_ | refine bi_xt1 ?_ | refine bi_xt2 ?_ | refine bi_xt3 ?_ | refine bi_T ?_ | refine bi_F ?_ | refine bi_not ?_ | refine bi_and ?_ | refine bi_or ?_ | refine bi_xor ?_ | refine bi_shr (by omega) (by decide) ?_ | refine bi_shl (by omega) (by decide) ?_ | refine bi_quo64 (by omega) ?_ | refine bi_rem64 (by omega) ?_ | refine bi_mul64 (by omega) ?_ | refine bi_neg ?_ | refine bi_un_xor32 ?_ | refine bi_add ?_ | refine bi_sub ?_ | refine bi_mul ?_ | refine bi_quo (by decide) ?_ | refine bi_rem (by decide) ?_)
    refine lift hent ?_
    unfold Hd.ptr
    (repeat with_reducible first | refine nck ?_ | refine cdT ?_ | refine cdF ?_ | refine gdY ?_ | refine gdFT ?_ | refine gdTF ?_ | refine gdU ?_ | refine gaY ?_ | refine gaFT ?_ | refine gaTF ?_ | refine pickT ?_ | refine pickF ?_ | refine bi_lss_t (by omega) ?_ | refine bi_lss_f (by omega) ?_ | refine bi_add64 (by omega) ?_ | refine bi_sub64 (by omega) ?_ | refine bi_eql_t (by omega) ?_ | refine bi_eql_f (by omega) ?_ | refine bi_neq_t (by omega) ?_ | refine bi_neq_f (by omega) ?_ | refine bi_gtr_t (by omega) ?_ | refine bi_gtr_f (by omega) ?_ | refine bi_leq_t (by omega) ?_ | refine bi_leq_f (by omega) ?_ | refine bi_geq_t (by omega) ?_ | refine bi_geq_f (by omega) ?_ | refine bi_xt0 ?_ | refine bi_xt1 ?_ | refine bi_xt2 ?_ | refine bi_xt3 ?_ | refine bi_T ?_ | refine bi_F ?_ | refine bi_not ?_ | refine bi_and ?_ | refine bi_or ?_ | refine bi_xor ?_ | refine bi_shr (by omega) (by decide) ?_ | refine bi_shl (by omega) (by decide) ?_ | refine bi_quo64 (by omega) ?_ | refine bi_rem64 (by omega) ?_ | refine bi_mul64 (by omega) ?_ | refine bi_neg ?_ | refine bi_un_xor32 ?_ | refine bi_add ?_ | refine bi_sub ?_ | refine bi_mul ?_ | refine bi_quo (by decide) ?_ | refine bi_rem (by decide) ?_)
    have hdr : Below w4.heap.size w4 w4.drew := (Below.refl _ _).drew
    have hsd : w4.drew.heap.size = w4.heap.size := rfl
    refine draw (Below w4.heap.size w4) hdr ?_
    have d0 : ∀ w', Below w4.heap.size w4 w' → w'.cell? ⟨H.gh, 0, none⟩ = some H.v := fun w' hw => (hH.below hw).blk.cell 0
    have kR : ∀ w', Below w4.heap.size w4 w' → Blk w' gr 23 (rgA r) := fun w' hw => hR4.below' hw
    generalize w4.drew = w5 at *
    (repeat with_reducible first | refine yfd k0 (by decide) ?_ | refine yl1 one26 d0 ?_ | refine ynck ?_ | refine nck ?_ | refine cdT ?_ | refine cdF ?_ | refine gdY ?_ | refine gdFT ?_ | refine gdTF ?_ | refine gdU ?_ | refine gaY ?_ | refine gaFT ?_ | refine gaTF ?_ | refine pickT ?_ | refine pickF ?_ | refine yi_lss_t (by omega) ?_ | refine yi_lss_f (by omega) ?_ | refine yi_add64 (by omega) ?_ | refine yi_sub64 (by omega) ?_ | refine yi_eql_t (by omega) ?_ | refine yi_eql_f (by omega) ?_ | refine yi_neq_t (by omega) ?_ | refine yi_neq_f (by omega) ?_ | refine yi_gtr_t (by omega) ?_ | refine yi_gtr_f (by omega) ?_ | refine yi_leq_t (by omega) ?_ | refine yi_leq_f (by omega) ?_ | refine yi_geq_t (by omega) ?_ | refine yi_geq_f (by omega) ?_ | refine yi_xt0 ?_ | refine yi_xt1 ?_ | refine yi_xt2 ?_ | refine yi_xt3 ?_ | refine yi_T ?_ | refine yi_F ?_ | refine yi_not ?_ | refine yi_and ?_ | refine yi_or ?_ | refine yi_xor ?_ | refine yi_shr (by omega) (by decide) ?_ | refine yi_shl (by omega) (by decide) ?_ | refine yi_quo64 (by omega) ?_ | refine yi_rem64 (by omega) ?_ | refine yi_mul64 (by omega) ?_ | refine yi_neg ?_ | refine yi_un_xor32 ?_ | refine yi_add ?_ | refine yi_sub ?_ | refine yi_mul ?_ | refine yi_quo (by decide) ?_ | refine yi_rem (by decide) ?_)
    refine yldA agg23 kR (by rw [sz23]; rfl) ?_
    refine act ?_
    refine (minus19 H.v H.L r (by omega) w5 (hH.rd.kept hdr)).mono ?_
    rintro u w6 ⟨out, hout, _, hou, h6⟩
    have hb6 := below_then hdr h6
    have heq := hout.eq
    subst heq
    refine ⟨_, hb6, fun _ h => h, ?_⟩
    (repeat with_reducible first | refine yfd k0 (by decide) ?_ | refine ynck ?_ | refine nck ?_ | refine cdT ?_ | refine cdF ?_ | refine gdY ?_ | refine gdFT ?_ | refine gdTF ?_ | refine gdU ?_ | refine gaY ?_ | refine gaFT ?_ | refine gaTF ?_ | refine pickT ?_ | refine pickF ?_ | refine yi_lss_t (by omega) ?_ | refine yi_lss_f (by omega) ?_ | refine yi_add64 (by omega) ?_ | refine yi_sub64 (by omega) ?_ | refine yi_eql_t (by omega) ?_ | refine yi_eql_f (by omega) ?_ | refine yi_neq_t (by omega) ?_ | refine yi_neq_f (by omega) ?_ | refine yi_gtr_t (by omega) ?_ | refine yi_gtr_f (by omega) ?_ | refine yi_leq_t (by omega) ?_ | refine yi_leq_f (by omega) ?_ | refine yi_geq_t (by omega) ?_ | refine yi_geq_f (by omega) ?_ | refine yi_xt0 ?_ | refine yi_xt1 ?_ | refine yi_xt2 ?_ | refine yi_xt3 ?_ | refine yi_T ?_ | refine yi_F ?_ | refine yi_not ?_ | refine yi_and ?_ | refine yi_or ?_ | refine yi_xor ?_ | refine yi_shr (by omega) (by decide) ?_ | refine yi_shl (by omega) (by decide) ?_ | refine yi_quo64 (by omega) ?_ | refine yi_rem64 (by omega) ?_ | refine yi_mul64 (by omega) ?_ | refine yi_neg ?_ | refine yi_un_xor32 ?_ | refine yi_add ?_ | refine yi_sub ?_ | refine yi_mul ?_ | refine yi_quo (by decide) ?_ | refine yi_rem (by decide) ?_)
    have hH6 := hH.below hb6
    have h1u : u.oneCell' = true := by
      rcases hou.1.2 with ⟨e, _⟩ | ⟨g3, c3, _, e, _⟩ <;> rw [e] <;> rfl
    refine st sz26 h1u (by rw [hH6.blk.cell 0]; rfl) (hH6.blk.frozen 0) ?_
    have hT := Turns.setCell (F := fun k => k = H.gh) (p := ⟨H.gh, 0, none⟩) (Turns.refl _ w6) (.inl rfl) u
    have hB := hH6.blk.set_ 0 u
    have hghl : H.gh < w4.heap.size := hH.blk.lt
    have hTa : Turns (fun k => k = H.gh) w4 (w6.setCell ⟨H.gh, 0, none⟩ u) := (Turns.of_below hb6).trans (hT.mono fun j _ e => .inl e)
    have hcc := col_lt c' w4.heap.size (hueC hu k)
    obtain ⟨q1, q2, q3⟩ := h4.put (c' := col c' w4.heap.size (hueC hu k)) hcc (H1 := ⟨H.gh, u, mns H.L r, H.left⟩) hx rfl hTa (fun k _ e => by rw [e]; exact hH.hue)
      ⟨(hcc _ hghl).trans hH.hue, hB, ownsRow_turns hou.1 hT (fun q hq e => by have := hou.2 q hq; omega), fun q hq => col_ge _ _ _ (by have := hou.2 q hq; omega)⟩
    refine hJ _ _ hlt ⟨_, col c' w4.heap.size (hueC hu k), _, rfl, ⟨fun j hj => (hcc j (Nat.lt_of_lt_of_le hj hT4'.size)).trans (R.ext j hj), q1, ?_, ?_, by rw [q3]; exact R.len, hT4'.trans (hTa.mono fun j hj e => ?_)⟩, hR4.turns hTa (blk_ne hR4 hH.blk (by decide))⟩
    · rw [setK_same Hd.ptr (v := ⟨H.gh, u, mns H.L r, H.left⟩) (v0 := H) rfl hx]
      exact hm4.turns hTa (fun e => map_ne hH.blk h4.map e.symm) (fun e => MapR.neb hm4 hH.blk e.symm)
    · rw [q2]
      funext j
      rw [mem_left (fun o => o.map fun p => (mns p.1 r, p.2)) (V j) hk]
      by_cases hj : j = k
      · subst hj
        rw [if_pos rfl, if_pos rfl, hvk]; rfl
      · rw [if_neg hj, if_neg hj]
        exact congrFun R.abs j
    · rcases Nat.lt_or_ge j w.heap.size with hlt' | hge
      · left
        rw [e, Dh, ← R.ext _ (by rw [← e]; exact hlt'), hH.hue, hueC_mod h4.hh.2]
      · exact .inr hge
/-! ### Take -/
theorem pushAct {K : (World → Prop) → Value → World → Prop} {S : World → Prop} {cs : Array Bool} {w : World} {v : Value} {l : List Rg} (h : w.ownsRow 0 23 2 v l.length (l.flatMap rgF)) (hl : l.length ≤ 100000) (r : Rg)
    (hS : ∀ w', Turns (fun j => v.ownBlock = some j) w w' → S w') (k : ∀ v' w', w'.ownsRow 0 23 2 v' (l ++ [r]).length ((l ++ [r]).flatMap rgF) → Turns (fun j => v.ownBlock = some j) w w' → K S v' w') :
    ActP S (fun K w => LiftP Try.prog (Instr.buildSlice 26 1 #[(0, rgV r)]) K w) (fun S u w => ActP S (fun K w => NextP Try.prog (builtin .append #[26, 26] 26 cs #[v, u]) K w) K w) w := by
  refine act ?_
  refine lift (v := .slice (some ⟨w.heap.size, 0, none⟩) 1 1) (w' := w.alloc (.cells (rgA r) 23)) (by kernel_rfl) ?_
  have hN : Blk (w.alloc (.cells (rgA r) 23)) w.heap.size 23 (rgA r) := Blk.new w 23 _
  have ha := (Below.refl w.heap.size w).alloc (Nat.le_refl _) (.cells (rgA r) 23)
  have h1 := ownsRow_turns h (Turns.of_below (F := fun _ => False) ha) (fun _ _ h => h)
  generalize w.alloc (.cells (rgA r) 23) = w1 at *
  refine ⟨S, hS _ (Turns.of_below ha), fun _ h => h, ?_⟩
  refine act ?_
  refine apGb und26 inf23 (by rfl) (by decide) h1 (a := ⟨w.heap.size, 0, none⟩) (m := 1) (c := 1) (news := rgF r) (by rfl) (fun j u hu => by
    rw [add0, Nat.zero_add, hN.cell j]; simpa [rgF, rgA] using hu) (rgF_one r) (by omega) (by omega) ?_
  intro v' w' ho hbl hT
  have hT' : Turns (fun j => v.ownBlock = some j) w w' := (Turns.of_below ha).trans (hT.mono fun j _ e => .inl e)
  have e : (l ++ [r]).flatMap rgF = l.flatMap rgF ++ rgF r := by simp
  exact ⟨S, hS _ hT', fun _ h => h, k v' w' (by rw [e, List.length_append]; exact ho) hT'⟩
end Go.Proofs.Ytcihbjempijhpaa.E
/- The table of locks: Take. -/
namespace Go.Proofs.Ytcihbjempijhpaa.E
open Go Go.RowKit
set_option linter.unusedSimpArgs false
set_option linter.unusedVariables false

theorem Take28 {hu : Nat} {c : Nat → Nat} {w : World} {g n : Nat} {le : Int} {V : LkV} (id : Int) (r : Rg) (hid64 : id ≤ 9223372036854775807) (h : LkS hu c w g le n V) (hok : LkOk 500 le V) (hn : n ≤ 100000) :
    CallP Try.prog 28 #[.pointer (some ⟨g, 0, none⟩), .int .i64 id, rgV r] (fun u w' => u = .int .i64 (takeE id r) ∧ LeftL hu c w g le (n + 1) (takeV le V id r) w') w := by
  refine ⟨S28.calls _ _ _ _ _ ?_⟩
  unfold S28
  refine bxB ?_
  intro gr w1 hgr hR1 hb1
  have hs1 := hb1.size
  have bad : ∀ w', Below w.heap.size w w' → (id < 1 ∨ emptyR r) → (Value.int .i64 1 = .int .i64 (takeE id r) ∧ LeftL hu c w g le (n + 1) (takeV le V id r) w') := fun w' hb e => by
    rw [takeE, takeV, if_pos e, if_pos e]
    exact ⟨rfl, c, fun _ _ => rfl, (h.below hb).mono (by omega), Turns.of_below hb⟩
  refine bi_lss_c (fun hi => ?_) (fun hi => ?_)
  · (repeat with_reducible first | refine nck ?_ | refine cdT ?_ | refine cdF ?_ | refine gdY ?_ | refine gdFT ?_ | refine gdTF ?_ | refine gdU ?_ | refine gaY ?_ | refine gaFT ?_ | refine gaTF ?_ | refine pickT ?_ | refine pickF ?_ | refine bi_lss_t (by omega) ?_ | refine bi_lss_f (by omega) ?_ | refine bi_add64 (by omega) ?_ | refine bi_sub64 (by omega) ?_ | refine bi_eql_t (by omega) ?_ | refine bi_eql_f (by omega) ?_ | refine bi_neq_t (by omega) ?_ | refine bi_neq_f (by omega) ?_ | refine bi_gtr_t (by omega) ?_ | refine bi_gtr_f (by omega) ?_ | refine bi_leq_t (by omega) ?_ | refine bi_leq_f (by omega) ?_ | refine bi_geq_t (by omega) ?_ | refine bi_geq_f (by omega) ?_ | refine bi_xt0 ?_ | refine bi_xt1 ?_ | refine bi_xt2 ?_ | refine bi_xt3 ?_ | refine bi_T ?_ | refine bi_F ?_ | refine bi_not ?_ | refine bi_and ?_ | refine bi_or ?_ | refine bi_xor ?_ | refine bi_shr (by omega) (by decide) ?_ | refine bi_shl (by omega) (by decide) ?_ | refine bi_quo64 (by omega) ?_ | refine bi_rem64 (by omega) ?_ | refine bi_mul64 (by omega) ?_ | refine bi_neg ?_ | refine bi_un_xor32 ?_ | refine bi_add ?_ | refine bi_sub ?_ | refine bi_mul ?_ | refine bi_quo (by decide) ?_ | refine bi_rem (by decide) ?_)
    exact bad w1 hb1 (.inl hi)
  (repeat with_reducible first | refine nck ?_ | refine cdT ?_ | refine cdF ?_ | refine gdY ?_ | refine gdFT ?_ | refine gdTF ?_ | refine gdU ?_ | refine gaY ?_ | refine gaFT ?_ | refine gaTF ?_ | refine pickT ?_ | refine pickF ?_ | refine bi_lss_t (by omega) ?_ | refine bi_lss_f (by omega) ?_ | refine bi_add64 (by omega) ?_ | refine bi_sub64 (by omega) ?_ | refine bi_eql_t (by omega) ?_ | refine bi_eql_f (by omega) ?_ | refine bi_neq_t (by omega) ?_ | refine bi_neq_f (by omega) ?_ | refine bi_gtr_t (by omega) ?_ | refine bi_gtr_f (by omega) ?_ | refine bi_leq_t (by omega) ?_ | refine bi_leq_f (by omega) ?_ | refine bi_geq_t (by omega) ?_ | refine bi_geq_f (by omega) ?_ | refine bi_xt0 ?_ | refine bi_xt1 ?_ | refine bi_xt2 ?_ | refine bi_xt3 ?_ | refine bi_T ?_ | refine bi_F ?_ | refine bi_not ?_ | refine bi_and ?_ | refine bi_or ?_ | refine bi_xor ?_ | refine bi_shr (by omega) (by decide) ?_ | refine bi_shl (by omega) (by decide) ?_ | refine bi_quo64 (by omega) ?_ | refine bi_rem64 (by omega) ?_ | refine bi_mul64 (by omega) ?_ | refine bi_neg ?_ | refine bi_un_xor32 ?_ | refine bi_add ?_ | refine bi_sub ?_ | refine bi_mul ?_ | refine bi_quo (by decide) ?_ | refine bi_rem (by decide) ?_)
  refine ldA agg23 hR1 (by rw [sz23]; rfl) ?_
  (repeat with_reducible first | refine nck ?_ | refine cdT ?_ | refine cdF ?_ | refine gdY ?_ | refine gdFT ?_ | refine gdTF ?_ | refine gdU ?_ | refine gaY ?_ | refine gaFT ?_ | refine gaTF ?_ | refine pickT ?_ | refine pickF ?_ | refine bi_lss_t (by omega) ?_ | refine bi_lss_f (by omega) ?_ | refine bi_add64 (by omega) ?_ | refine bi_sub64 (by omega) ?_ | refine bi_eql_t (by omega) ?_ | refine bi_eql_f (by omega) ?_ | refine bi_neq_t (by omega) ?_ | refine bi_neq_f (by omega) ?_ | refine bi_gtr_t (by omega) ?_ | refine bi_gtr_f (by omega) ?_ | refine bi_leq_t (by omega) ?_ | refine bi_leq_f (by omega) ?_ | refine bi_geq_t (by omega) ?_ | refine bi_geq_f (by omega) ?_ | refine bi_xt0 ?_ | refine bi_xt1 ?_ | refine bi_xt2 ?_ | refine bi_xt3 ?_ | refine bi_T ?_ | refine bi_F ?_ | refine bi_not ?_ | refine bi_and ?_ | refine bi_or ?_ | refine bi_xor ?_ | refine bi_shr (by omega) (by decide) ?_ | refine bi_shl (by omega) (by decide) ?_ | refine bi_quo64 (by omega) ?_ | refine bi_rem64 (by omega) ?_ | refine bi_mul64 (by omega) ?_ | refine bi_neg ?_ | refine bi_un_xor32 ?_ | refine bi_add ?_ | refine bi_sub ?_ | refine bi_mul ?_ | refine bi_quo (by decide) ?_ | refine bi_rem (by decide) ?_)
  refine (empty14 r w1).mono ?_
  rintro _ w2 ⟨rfl, h2⟩
  have hb2 := below_then hb1 h2
  by_cases he : emptyR r
  · rw [decide_eq_true he]
    (repeat with_reducible first | refine nck ?_ | refine cdT ?_ | refine cdF ?_ | refine gdY ?_ | refine gdFT ?_ | refine gdTF ?_ | refine gdU ?_ | refine gaY ?_ | refine gaFT ?_ | refine gaTF ?_ | refine pickT ?_ | refine pickF ?_ | refine bi_lss_t (by omega) ?_ | refine bi_lss_f (by omega) ?_ | refine bi_add64 (by omega) ?_ | refine bi_sub64 (by omega) ?_ | refine bi_eql_t (by omega) ?_ | refine bi_eql_f (by omega) ?_ | refine bi_neq_t (by omega) ?_ | refine bi_neq_f (by omega) ?_ | refine bi_gtr_t (by omega) ?_ | refine bi_gtr_f (by omega) ?_ | refine bi_leq_t (by omega) ?_ | refine bi_leq_f (by omega) ?_ | refine bi_geq_t (by omega) ?_ | refine bi_geq_f (by omega) ?_ | refine bi_xt0 ?_ | refine bi_xt1 ?_ | refine bi_xt2 ?_ | refine bi_xt3 ?_ | refine bi_T ?_ | refine bi_F ?_ | refine bi_not ?_ | refine bi_and ?_ | refine bi_or ?_ | refine bi_xor ?_ | refine bi_shr (by omega) (by decide) ?_ | refine bi_shl (by omega) (by decide) ?_ | refine bi_quo64 (by omega) ?_ | refine bi_rem64 (by omega) ?_ | refine bi_mul64 (by omega) ?_ | refine bi_neg ?_ | refine bi_un_xor32 ?_ | refine bi_add ?_ | refine bi_sub ?_ | refine bi_mul ?_ | refine bi_quo (by decide) ?_ | refine bi_rem (by decide) ?_)
    exact bad w2 hb2 (.inr he)
  rw [decide_eq_false he]
  have hnb : ¬ (id < 1 ∨ emptyR r) := fun e => e.elim hi he
  rw [takeE, takeV, if_neg hnb, if_neg hnb]
  have hR2 := hR1.below' h2
  have hs2 := hb2.size
  clear bad
  obtain ⟨bm, T, h0, rfl, hTl⟩ := h
  have h3 := h0.below hb2
  have hvlt : ∀ p ∈ T, ∀ k, p.2.v.ownBlock = some k → k < w.heap.size := fun p hp k hk => (h0.el p hp).2.vlt hk
  (repeat with_reducible first | refine nck ?_ | refine cdT ?_ | refine cdF ?_ | refine gdY ?_ | refine gdFT ?_ | refine gdTF ?_ | refine gdU ?_ | refine gaY ?_ | refine gaFT ?_ | refine gaTF ?_ | refine pickT ?_ | refine pickF ?_ | refine bi_lss_t (by omega) ?_ | refine bi_lss_f (by omega) ?_ | refine bi_add64 (by omega) ?_ | refine bi_sub64 (by omega) ?_ | refine bi_eql_t (by omega) ?_ | refine bi_eql_f (by omega) ?_ | refine bi_neq_t (by omega) ?_ | refine bi_neq_f (by omega) ?_ | refine bi_gtr_t (by omega) ?_ | refine bi_gtr_f (by omega) ?_ | refine bi_leq_t (by omega) ?_ | refine bi_leq_f (by omega) ?_ | refine bi_geq_t (by omega) ?_ | refine bi_geq_f (by omega) ?_ | refine bi_xt0 ?_ | refine bi_xt1 ?_ | refine bi_xt2 ?_ | refine bi_xt3 ?_ | refine bi_T ?_ | refine bi_F ?_ | refine bi_not ?_ | refine bi_and ?_ | refine bi_or ?_ | refine bi_xor ?_ | refine bi_shr (by omega) (by decide) ?_ | refine bi_shl (by omega) (by decide) ?_ | refine bi_quo64 (by omega) ?_ | refine bi_rem64 (by omega) ?_ | refine bi_mul64 (by omega) ?_ | refine bi_neg ?_ | refine bi_un_xor32 ?_ | refine bi_add ?_ | refine bi_sub ?_ | refine bi_mul ?_ | refine bi_quo (by decide) ?_ | refine bi_rem (by decide) ?_)
  refine JoinP.cut (fun xs w' => ∃ (c' : Nat → Nat) (T' : List (Int × Hd)) (H : Hd), (∀ k, k < w.heap.size → c' k = c k) ∧ LkAt hu c' w' g bm le T' ∧ getK id T' = some H ∧ H.L = ((absT T id).map (·.1)).getD [] ∧ (∀ j, j ≠ id → absT T' j = absT T j) ∧ T'.length ≤ n + 1 ∧ (∀ k, H.v.ownBlock = some k → k < w.heap.size) ∧ Blk w' gr 23 (rgA r) ∧ Turns (Dh hu c) w w') (fun J hJ => ?_) (fun xs w4 hI => ?_)
  · have c1 : w2.cell? ⟨g, 1, none⟩ = some (.map (some bm)) := h3.blk.cell 1
    (repeat with_reducible first | refine fd t1 (by decide) ?_ | refine ld one70 c1 ?_ | refine nck ?_ | refine cdT ?_ | refine cdF ?_ | refine gdY ?_ | refine gdFT ?_ | refine gdTF ?_ | refine gdU ?_ | refine gaY ?_ | refine gaFT ?_ | refine gaTF ?_ | refine pickT ?_ | refine pickF ?_ | refine bi_lss_t (by omega) ?_ | refine bi_lss_f (by omega) ?_ | refine bi_add64 (by omega) ?_ | refine bi_sub64 (by omega) ?_ | refine bi_eql_t (by omega) ?_ | refine bi_eql_f (by omega) ?_ | refine bi_neq_t (by omega) ?_ | refine bi_neq_f (by omega) ?_ | refine bi_gtr_t (by omega) ?_ | refine bi_gtr_f (by omega) ?_ | refine bi_leq_t (by omega) ?_ | refine bi_leq_f (by omega) ?_ | refine bi_geq_t (by omega) ?_ | refine bi_geq_f (by omega) ?_ | refine bi_xt0 ?_ | refine bi_xt1 ?_ | refine bi_xt2 ?_ | refine bi_xt3 ?_ | refine bi_T ?_ | refine bi_F ?_ | refine bi_not ?_ | refine bi_and ?_ | refine bi_or ?_ | refine bi_xor ?_ | refine bi_shr (by omega) (by decide) ?_ | refine bi_shl (by omega) (by decide) ?_ | refine bi_quo64 (by omega) ?_ | refine bi_rem64 (by omega) ?_ | refine bi_mul64 (by omega) ?_ | refine bi_neg ?_ | refine bi_un_xor32 ?_ | refine bi_add ?_ | refine bi_sub ?_ | refine bi_mul ?_ | refine bi_quo (by decide) ?_ | refine bi_rem (by decide) ?_)
    refine lkq und70 und3 z73 h3.map ?_
    rw [getK_ptr]
    cases hx : getK id T with
    | some H =>
      simp only [Option.map_some, Option.getD_some, Hd.ptr]
      refine ofPR (pr_pnil und73) ?_
      simp only [Option.isNone_some]
      (repeat with_reducible first | refine nck ?_ | refine cdT ?_ | refine cdF ?_ | refine gdY ?_ | refine gdFT ?_ | refine gdTF ?_ | refine gdU ?_ | refine gaY ?_ | refine gaFT ?_ | refine gaTF ?_ | refine pickT ?_ | refine pickF ?_ | refine bi_lss_t (by omega) ?_ | refine bi_lss_f (by omega) ?_ | refine bi_add64 (by omega) ?_ | refine bi_sub64 (by omega) ?_ | refine bi_eql_t (by omega) ?_ | refine bi_eql_f (by omega) ?_ | refine bi_neq_t (by omega) ?_ | refine bi_neq_f (by omega) ?_ | refine bi_gtr_t (by omega) ?_ | refine bi_gtr_f (by omega) ?_ | refine bi_leq_t (by omega) ?_ | refine bi_leq_f (by omega) ?_ | refine bi_geq_t (by omega) ?_ | refine bi_geq_f (by omega) ?_ | refine bi_xt0 ?_ | refine bi_xt1 ?_ | refine bi_xt2 ?_ | refine bi_xt3 ?_ | refine bi_T ?_ | refine bi_F ?_ | refine bi_not ?_ | refine bi_and ?_ | refine bi_or ?_ | refine bi_xor ?_ | refine bi_shr (by omega) (by decide) ?_ | refine bi_shl (by omega) (by decide) ?_ | refine bi_quo64 (by omega) ?_ | refine bi_rem64 (by omega) ?_ | refine bi_mul64 (by omega) ?_ | refine bi_neg ?_ | refine bi_un_xor32 ?_ | refine bi_add ?_ | refine bi_sub ?_ | refine bi_mul ?_ | refine bi_quo (by decide) ?_ | refine bi_rem (by decide) ?_)
      exact hJ _ _ ⟨c, T, H, fun _ _ => rfl, h3, hx, by rw [absT, hx]; rfl, fun _ _ => rfl, by omega, hvlt _ (getK_mem _ _ _ hx), hR2, Turns.of_below hb2⟩
    | none =>
      simp only [Option.map_none, Option.getD_none]
      refine ofPR (pr_pnil und73) ?_
      simp only [Option.isNone_none]
      (repeat with_reducible first | refine fd t1 (by decide) ?_ | refine ld one70 c1 ?_ | refine nck ?_ | refine cdT ?_ | refine cdF ?_ | refine gdY ?_ | refine gdFT ?_ | refine gdTF ?_ | refine gdU ?_ | refine gaY ?_ | refine gaFT ?_ | refine gaTF ?_ | refine pickT ?_ | refine pickF ?_ | refine bi_lss_t (by omega) ?_ | refine bi_lss_f (by omega) ?_ | refine bi_add64 (by omega) ?_ | refine bi_sub64 (by omega) ?_ | refine bi_eql_t (by omega) ?_ | refine bi_eql_f (by omega) ?_ | refine bi_neq_t (by omega) ?_ | refine bi_neq_f (by omega) ?_ | refine bi_gtr_t (by omega) ?_ | refine bi_gtr_f (by omega) ?_ | refine bi_leq_t (by omega) ?_ | refine bi_leq_f (by omega) ?_ | refine bi_geq_t (by omega) ?_ | refine bi_geq_f (by omega) ?_ | refine bi_xt0 ?_ | refine bi_xt1 ?_ | refine bi_xt2 ?_ | refine bi_xt3 ?_ | refine bi_T ?_ | refine bi_F ?_ | refine bi_not ?_ | refine bi_and ?_ | refine bi_or ?_ | refine bi_xor ?_ | refine bi_shr (by omega) (by decide) ?_ | refine bi_shl (by omega) (by decide) ?_ | refine bi_quo64 (by omega) ?_ | refine bi_rem64 (by omega) ?_ | refine bi_mul64 (by omega) ?_ | refine bi_neg ?_ | refine bi_un_xor32 ?_ | refine bi_add ?_ | refine bi_sub ?_ | refine bi_mul ?_ | refine bi_quo (by decide) ?_ | refine bi_rem (by decide) ?_)
      refine bd (cells := #[.slice none 0 0, .int .i64 0]) (by kernel_rfl) ?_
      refine bxB ?_
      intro gh w5 hgh hH5 h5
      have hb5 := below_then hb2 h5
      have hcc := col_lt c w2.heap.size (hueC hu id)
      have h6 := (h3.re hcc).below h5
      have hl : (T.map fun p => (p.1, p.2.ptr)).length < maxLen := by rw [List.length_map]; simp only [maxLen]; omega
      refine mup und70 und3 h6.map (wf64 (by omega)) hl ?_
      intro w7 hm7 hT7
      have hH0 : HdAt (col c w2.heap.size (hueC hu id)) (hueC hu id) w5 ⟨gh, .slice none 0 0, [], 0⟩ := ⟨col_ge _ _ _ (show w2.heap.size ≤ gh by omega), hH5, (OwnA.nil 0 w5).1, fun k hk => by cases hk⟩
      have hcb : col c w2.heap.size (hueC hu id) bm = hu := h6.huem
      have far : ∀ x k, k = bm → col c w2.heap.size (hueC hu id) k ≠ hueC hu x := fun x k e => by rw [e, hcb]; exact fun e => hueC_ne hu x e.symm
      have hset := setK_map Hd.ptr id ⟨gh, .slice none 0 0, [], 0⟩ T
      have hm7' : MapI w7 bm ((setK id ⟨gh, .slice none 0 0, [], 0⟩ T).map fun p => (p.1, p.2.ptr)) := by
        rw [← hset]; exact hm7
      refine hJ _ _ ⟨col c w2.heap.size (hueC hu id), setK id ⟨gh, .slice none 0 0, [], 0⟩ T, ⟨gh, .slice none 0 0, [], 0⟩, fun k hk => hcc k (by omega),
        ⟨h6.hh, h6.hue, h6.huem, h6.blk.turns hT7 h6.ne, hm7', fun p hp => ?_⟩, by rw [getK_setK, if_pos rfl], by rw [absT, hx]; rfl, fun j hj => by unfold absT; rw [getK_setK, if_neg hj], ?_, (fun k hk => by cases hk), (hR2.below' h5).turns hT7 (map_ne (hR2.below' h5) h6.map), (Turns.of_below hb5).trans (hT7.mono fun k _ e => ?_)⟩
      · rcases setK_mem' h3.nodup hp with rfl | ⟨hm, hne⟩
        · exact ⟨(by show (0 : Int) ≤ id; omega), hH0.turns hT7 (far id)⟩
        · exact ⟨(h6.el p hm).1, (h6.el p hm).2.turns hT7 (far p.1)⟩
      · have := setK_len_le' id (⟨gh, .slice none 0 0, [], 0⟩ : Hd) T
        omega
      · rcases Nat.lt_or_ge k w.heap.size with hlt | hge
        · exact .inl (by rw [e, Dh, h3.huem, Nat.mod_eq_of_lt h3.hh.2])
        · exact .inr hge
  · obtain ⟨c', T', H, hext, h4, hx, hHL, habs, hlen', hvl, hR4, hT4⟩ := hI
    obtain ⟨hid, hH⟩ := h4.el _ (getK_mem _ _ _ hx)
    have hHlen : H.L.length ≤ 500 := by
      rw [hHL]
      cases hv : absT T id with
      | none => simp
      | some p =>
        obtain ⟨_, _, _, q, _⟩ := hok id p.1 p.2 hv
        exact q
    have hsz4 := hT4.size
    have hdr : Below w4.heap.size w4 w4.drew := (Below.refl _ _).drew
    have hsd : w4.drew.heap.size = w4.heap.size := rfl
    -- what stands while the row is grown
    have ngr : ¬ H.v.ownBlock = some gr := fun e => by have := hvl _ e; omega
    have ng : ¬ H.v.ownBlock = some g := fun e => by
      have := hH.huev _ e
      rw [h4.hue] at this
      exact hueC_ne hu id this.symm
    have nb : ¬ H.v.ownBlock = some bm := fun e => by
      have := hH.huev _ e
      rw [h4.huem] at this
      exact hueC_ne hu id this.symm
    have nh : ¬ H.v.ownBlock = some H.gh := fun e => hH.vne _ e rfl
    let S : World → Prop := fun w' => Blk w' g 72 #[.int .i64 le, .map (some bm)] ∧ MapI w' bm (T'.map fun p => (p.1, p.2.ptr)) ∧ Blk w' H.gh 75 #[H.v, .int .i64 H.left] ∧ Blk w' gr 23 (rgA r)
    have hS : ∀ w', Turns (fun j => H.v.ownBlock = some j) w4 w' → S w' := fun w' hT => ⟨h4.blk.turns hT ng, h4.map.turns hT nb, hH.blk.turns hT nh, hR4.turns hT ngr⟩
    have s1 : ∀ w', S w' → w'.cell? ⟨g, 1, none⟩ = some (.map (some bm)) := fun w' h => h.1.cell 1
    have s2 : ∀ w', S w' → MapI w' bm (T'.map fun p => (p.1, p.2.ptr)) := fun w' h => h.2.1
    have s3 : ∀ w', S w' → w'.cell? ⟨H.gh, 0, none⟩ = some H.v := fun w' h => h.2.2.1.cell 0
    have s4 : ∀ w', S w' → Blk w' gr 23 (rgA r) := fun w' h => h.2.2.2
    have hTd : Turns (fun j => H.v.ownBlock = some j) w4 w4.drew := Turns.of_below hdr
    have hown := ownsRow_turns hH.own (Turns.of_below (F := fun _ => False) hdr) (fun _ _ h => h)
    refine draw S (hS _ hTd) ?_
    generalize w4.drew = w5 at *
    have hgk : (getK id (T'.map fun p => (p.1, p.2.ptr))).getD (.pointer none) = .pointer (some ⟨H.gh, 0, none⟩) := by rw [getK_ptr, hx]; rfl
    (repeat with_reducible first | refine yfd t1 (by decide) ?_ | refine yl1 one70 s1 ?_ | refine ynck ?_ | refine nck ?_ | refine cdT ?_ | refine cdF ?_ | refine gdY ?_ | refine gdFT ?_ | refine gdTF ?_ | refine gdU ?_ | refine gaY ?_ | refine gaFT ?_ | refine gaTF ?_ | refine pickT ?_ | refine pickF ?_ | refine yi_lss_t (by omega) ?_ | refine yi_lss_f (by omega) ?_ | refine yi_add64 (by omega) ?_ | refine yi_sub64 (by omega) ?_ | refine yi_eql_t (by omega) ?_ | refine yi_eql_f (by omega) ?_ | refine yi_neq_t (by omega) ?_ | refine yi_neq_f (by omega) ?_ | refine yi_gtr_t (by omega) ?_ | refine yi_gtr_f (by omega) ?_ | refine yi_leq_t (by omega) ?_ | refine yi_leq_f (by omega) ?_ | refine yi_geq_t (by omega) ?_ | refine yi_geq_f (by omega) ?_ | refine yi_xt0 ?_ | refine yi_xt1 ?_ | refine yi_xt2 ?_ | refine yi_xt3 ?_ | refine yi_T ?_ | refine yi_F ?_ | refine yi_not ?_ | refine yi_and ?_ | refine yi_or ?_ | refine yi_xor ?_ | refine yi_shr (by omega) (by decide) ?_ | refine yi_shl (by omega) (by decide) ?_ | refine yi_quo64 (by omega) ?_ | refine yi_rem64 (by omega) ?_ | refine yi_mul64 (by omega) ?_ | refine yi_neg ?_ | refine yi_un_xor32 ?_ | refine yi_add ?_ | refine yi_sub ?_ | refine yi_mul ?_ | refine yi_quo (by decide) ?_ | refine yi_rem (by decide) ?_)
    refine ylkq und70 und3 z73 s2 ?_
    rw [hgk]
    (repeat with_reducible first | refine yfd t1 (by decide) ?_ | refine yl1 one70 s1 ?_ | refine ynck ?_ | refine nck ?_ | refine cdT ?_ | refine cdF ?_ | refine gdY ?_ | refine gdFT ?_ | refine gdTF ?_ | refine gdU ?_ | refine gaY ?_ | refine gaFT ?_ | refine gaTF ?_ | refine pickT ?_ | refine pickF ?_ | refine yi_lss_t (by omega) ?_ | refine yi_lss_f (by omega) ?_ | refine yi_add64 (by omega) ?_ | refine yi_sub64 (by omega) ?_ | refine yi_eql_t (by omega) ?_ | refine yi_eql_f (by omega) ?_ | refine yi_neq_t (by omega) ?_ | refine yi_neq_f (by omega) ?_ | refine yi_gtr_t (by omega) ?_ | refine yi_gtr_f (by omega) ?_ | refine yi_leq_t (by omega) ?_ | refine yi_leq_f (by omega) ?_ | refine yi_geq_t (by omega) ?_ | refine yi_geq_f (by omega) ?_ | refine yi_xt0 ?_ | refine yi_xt1 ?_ | refine yi_xt2 ?_ | refine yi_xt3 ?_ | refine yi_T ?_ | refine yi_F ?_ | refine yi_not ?_ | refine yi_and ?_ | refine yi_or ?_ | refine yi_xor ?_ | refine yi_shr (by omega) (by decide) ?_ | refine yi_shl (by omega) (by decide) ?_ | refine yi_quo64 (by omega) ?_ | refine yi_rem64 (by omega) ?_ | refine yi_mul64 (by omega) ?_ | refine yi_neg ?_ | refine yi_un_xor32 ?_ | refine yi_add ?_ | refine yi_sub ?_ | refine yi_mul ?_ | refine yi_quo (by decide) ?_ | refine yi_rem (by decide) ?_)
    refine ylkq und70 und3 z73 s2 ?_
    rw [hgk]
    (repeat with_reducible first | refine yfd k0 (by decide) ?_ | refine yl1 one26 s3 ?_ | refine ynck ?_ | refine nck ?_ | refine cdT ?_ | refine cdF ?_ | refine gdY ?_ | refine gdFT ?_ | refine gdTF ?_ | refine gdU ?_ | refine gaY ?_ | refine gaFT ?_ | refine gaTF ?_ | refine pickT ?_ | refine pickF ?_ | refine yi_lss_t (by omega) ?_ | refine yi_lss_f (by omega) ?_ | refine yi_add64 (by omega) ?_ | refine yi_sub64 (by omega) ?_ | refine yi_eql_t (by omega) ?_ | refine yi_eql_f (by omega) ?_ | refine yi_neq_t (by omega) ?_ | refine yi_neq_f (by omega) ?_ | refine yi_gtr_t (by omega) ?_ | refine yi_gtr_f (by omega) ?_ | refine yi_leq_t (by omega) ?_ | refine yi_leq_f (by omega) ?_ | refine yi_geq_t (by omega) ?_ | refine yi_geq_f (by omega) ?_ | refine yi_xt0 ?_ | refine yi_xt1 ?_ | refine yi_xt2 ?_ | refine yi_xt3 ?_ | refine yi_T ?_ | refine yi_F ?_ | refine yi_not ?_ | refine yi_and ?_ | refine yi_or ?_ | refine yi_xor ?_ | refine yi_shr (by omega) (by decide) ?_ | refine yi_shl (by omega) (by decide) ?_ | refine yi_quo64 (by omega) ?_ | refine yi_rem64 (by omega) ?_ | refine yi_mul64 (by omega) ?_ | refine yi_neg ?_ | refine yi_un_xor32 ?_ | refine yi_add ?_ | refine yi_sub ?_ | refine yi_mul ?_ | refine yi_quo (by decide) ?_ | refine yi_rem (by decide) ?_)
    refine yldA agg23 s4 (by rw [sz23]; rfl) ?_
    refine pushAct hown (show H.L.length ≤ 100000 by omega) r (fun w' hw => hS w' (hTd.trans (hw.mono fun j _ e => .inl e))) ?_
    intro v6 w6 ho6 hT6
    have hT46 : Turns (fun j => H.v.ownBlock = some j) w4 w6 := hTd.trans (hT6.mono fun j _ e => .inl e)
    have hs6 := hT46.size
    refine act ?_
    refine (least18 v6 (H.L ++ [r]) (by simp; omega) w6 ((OwnR.of_own ho6).rd rgF_len fun _ _ => rfl)).mono ?_
    rintro u w7 ⟨out, hout, _, hou, h7⟩
    have heq := hout.eq
    subst heq
    have hT47 := hT46.then_below h7
    refine ⟨S, hS _ hT47, fun _ h => h, ?_⟩
    (repeat with_reducible first | refine yfd k0 (by decide) ?_ | refine ynck ?_ | refine nck ?_ | refine cdT ?_ | refine cdF ?_ | refine gdY ?_ | refine gdFT ?_ | refine gdTF ?_ | refine gdU ?_ | refine gaY ?_ | refine gaFT ?_ | refine gaTF ?_ | refine pickT ?_ | refine pickF ?_ | refine yi_lss_t (by omega) ?_ | refine yi_lss_f (by omega) ?_ | refine yi_add64 (by omega) ?_ | refine yi_sub64 (by omega) ?_ | refine yi_eql_t (by omega) ?_ | refine yi_eql_f (by omega) ?_ | refine yi_neq_t (by omega) ?_ | refine yi_neq_f (by omega) ?_ | refine yi_gtr_t (by omega) ?_ | refine yi_gtr_f (by omega) ?_ | refine yi_leq_t (by omega) ?_ | refine yi_leq_f (by omega) ?_ | refine yi_geq_t (by omega) ?_ | refine yi_geq_f (by omega) ?_ | refine yi_xt0 ?_ | refine yi_xt1 ?_ | refine yi_xt2 ?_ | refine yi_xt3 ?_ | refine yi_T ?_ | refine yi_F ?_ | refine yi_not ?_ | refine yi_and ?_ | refine yi_or ?_ | refine yi_xor ?_ | refine yi_shr (by omega) (by decide) ?_ | refine yi_shl (by omega) (by decide) ?_ | refine yi_quo64 (by omega) ?_ | refine yi_rem64 (by omega) ?_ | refine yi_mul64 (by omega) ?_ | refine yi_neg ?_ | refine yi_un_xor32 ?_ | refine yi_add ?_ | refine yi_sub ?_ | refine yi_mul ?_ | refine yi_quo (by decide) ?_ | refine yi_rem (by decide) ?_)
    have hH7 : Blk w7 H.gh 75 #[H.v, .int .i64 H.left] := (hS _ hT47).2.2.1
    have h1u : u.oneCell' = true := by
      rcases hou.1.2 with ⟨e, _⟩ | ⟨g3, c3, _, e, _⟩ <;> rw [e] <;> rfl
    refine st sz26 h1u (by rw [hH7.cell 0]; rfl) (hH7.frozen 0) ?_
    have hTs := Turns.setCell (F := fun k => k = H.gh) (p := ⟨H.gh, 0, none⟩) (Turns.refl _ w7) (.inl rfl) u
    have hB := hH7.set_ 0 u
    have hghl : H.gh < w4.heap.size := hH.blk.lt
    have hT48 : Turns (fun j => H.v.ownBlock = some j ∨ j = H.gh) w4 (w7.setCell ⟨H.gh, 0, none⟩ u) := (hT47.mono fun j _ e => .inl e).trans (hTs.mono fun j _ e => .inl (.inr e))
    have hcc := col_lt c' w4.heap.size (hueC hu id)
    obtain ⟨q1, q2, q3⟩ := h4.put (c' := col c' w4.heap.size (hueC hu id)) hcc (H1 := ⟨H.gh, u, lst (H.L ++ [r]), H.left⟩) hx rfl hT48 (fun k _ e => e.elim (fun e => hH.huev k e) (fun e => by rw [e]; exact hH.hue))
      ⟨(hcc _ hghl).trans hH.hue, hB, ownsRow_turns hou.1 hTs (fun q hq e => by have := hou.2 q hq; omega), fun q hq => col_ge _ _ _ (by have := hou.2 q hq; omega)⟩
    refine (Renew54 id ⟨bm, _, q1, rfl, (by rw [q3]; exact hlen')⟩).mono ?_
    rintro _ w9 ⟨_, c9, hc9, hS9, hT9⟩
    have hT4b : Turns (Dh hu c) w (w7.setCell ⟨H.gh, 0, none⟩ u) := hT4.trans (hT48.mono fun j hj e => by
      rcases Nat.lt_or_ge j w.heap.size with hlt | hge
      · left
        have : c' j = hueC hu id := e.elim (fun e => hH.huev j e) (fun e => by rw [e]; exact hH.hue)
        rw [Dh, ← hext j hlt, this, hueC_mod h4.hh.2]
      · exact .inr hge)
    have hcol : ∀ k, k < w.heap.size → col c' w4.heap.size (hueC hu id) k = c k := fun k hk => (hcc k (by omega)).trans (hext k hk)
    refine ⟨rfl, c9, fun k hk => (hc9 k (Nat.lt_of_lt_of_le hk hT4b.size)).trans (hcol k hk), ?_, hT4b.stepH hcol hT9⟩
    have e : renewV le (absT (setK id ⟨H.gh, u, lst (H.L ++ [r]), H.left⟩ T')) id = fun j => if j = id then some (lst (((absT T id).map (·.1)).getD [] ++ [r]), le) else absT T j := by
      rw [q2]
      funext j
      unfold renewV
      by_cases hj : j = id
      · rw [if_pos hj, if_pos hj]
        dsimp only
        rw [if_pos rfl, ← hHL]; rfl
      · rw [if_neg hj, if_neg hj]
        dsimp only
        rw [if_neg hj, habs j hj]
    rw [← e]
    exact hS9
end Go.Proofs.Ytcihbjempijhpaa.E
/- The numbers of the locks. -/
namespace Go.Proofs.Ytcihbjempijhpaa.E
open Go Go.Proofs Go.RowKit Go.Maps Go.Sort Go.Shelf
set_option linter.unusedSimpArgs false
set_option linter.unusedVariables false

/-- The map's words of the library's: whatever the values are. -/
theorem MapI.owns {w : World} {b : Nat} {l : List (Int × Value)} (h : MapI w b l) : ∃ D0 : DataW Unit, w.ownsMap Try.prog 3 (fun _ => some (.nil, [])) b l.length D0 ∧ (intKeys D0).Perm (l.map (·.1)) ∧ Maps.size D0 = l.length := by
  have hl := h
  obtain ⟨es, c, h1, h2, hst, hsz, hwf⟩ := h
  have hel : es.size = l.length := by have := congrArg List.length h2; simpa using this
  have hrd : ∀ x ∈ es.toList, ∃ k : Int, x.key = .int .i64 k ∧ WideElems.rd Try.prog 3 (fun _ => some ((.nil : DataW Unit), [])) x = some (.int .i64 k, .nil) := by
    intro x hx
    have hm : (x.key, x.val) ∈ es.toList.map (fun e => (e.key, e.val)) := List.mem_map.2 ⟨x, hx, rfl⟩
    rw [h2] at hm
    obtain ⟨p, hp, hpe⟩ := List.mem_map.1 hm
    have hk : x.key = .int .i64 p.1 := (congrArg Prod.fst hpe).symm
    refine ⟨p.1, hk, ?_⟩
    simp [WideElems.rd, hk, keyOf_int_mk und3 (hwf p hp)]
  refine ⟨.map ((es.toList.map (WideElems.rg Try.prog 3 fun _ => some (.nil, []))).foldr DataW.insert []), ⟨es, c, h1, ⟨hsz, hst, fun x hx => by obtain ⟨k, _, hk⟩ := hrd x hx; exact ⟨_, hk⟩⟩, by omega, rfl⟩, ?_, ?_⟩
  · have hp := (WideShapes.sorted_perm (es.toList.map (WideElems.rg Try.prog 3 fun _ => some ((.nil : DataW Unit), [])))).map fun p => Go.intOf p.1
    refine hp.trans ?_
    have e1 : (es.toList.map (WideElems.rg Try.prog 3 fun _ => some ((.nil : DataW Unit), []))).map (fun p => Go.intOf p.1) = l.map (·.1) := by
      have : (es.toList.map fun x => x.key) = l.map fun p => Value.int .i64 p.1 := by
        have := congrArg (List.map Prod.fst) h2
        simpa [List.map_map, Function.comp_def] using this
      have e2 : (es.toList.map (WideElems.rg Try.prog 3 fun _ => some ((.nil : DataW Unit), []))).map (fun p => Go.intOf p.1) = (es.toList.map fun x => x.key).map (fun v => match v with | .int _ n => n | _ => 0) := by
        rw [List.map_map, List.map_map]
        refine List.map_congr_left fun x hx => ?_
        obtain ⟨k, hk, hr⟩ := hrd x hx
        simp only [Function.comp]
        rw [WideElems.rg_of hr, hk]
        rfl
      rw [e2, this, List.map_map]
      rfl
    rw [e1]
  · have : (es.toList.map (WideElems.rg Try.prog 3 fun _ => some ((.nil : DataW Unit), []))).length = l.length := by rw [List.length_map, Array.length_toList, hel]
    rw [← this]
    exact length_sorted _
theorem sortsA (m : Nat) : AnyZI.SortsIn Try.prog sortedA_ren Fence.wide m :=
  ⟨fun blk off cap ss W hH hblk hsz => callsIn_wide.2 (AnyM.slices_Sort_int sortA blk off cap ss W hH hblk hsz),
   fun p cap W => callsIn_wide.2 (AnyM.slices_Sort_int_none sortA p cap W)⟩
theorem keys_spec (b : Nat) (w : World) : CallP Try.prog 63 #[.map (some b)] (fun r w' => r = .func (.func 74) #[] #[.pointer (some ⟨w.heap.size, 0, none⟩)] ∧ w' = w.alloc (.cells #[.map (some b)] 70)) w := by
  have h : CallsIn Fence.wide 5 Try.prog 63 #[.map (some b)] w fun e w' => e = .returned (.func (.func 74) #[] #[.pointer (some ⟨w.heap.size, 0, none⟩)]) ∧ w' = w.alloc (.cells #[.map (some b)] 70) := AnyZI.keys_in keysA Fence.wide 5 trivial rfl (some b) w
  exact ⟨(callsIn_wide.1 h).mono fun e w' ⟨h1, h2⟩ => ⟨_, h1, rfl, h2⟩⟩
theorem sorted_spec (b g : Nat) (l : List (Int × Value)) (w : World) (h : MapI w b l) (hg : w.cell? ⟨g, 0, none⟩ = some (.map (some b))) (hl : l.length ≤ 1000000) :
    CallP Try.prog 62 #[.func (.func 74) #[] #[.pointer (some ⟨g, 0, none⟩)]] (fun r w' => Own 3 w' r (((l.map (·.1)).mergeSort leI).map (Value.int .i64)) ∧ Fresh w.heap.size r ∧ Below w.heap.size w w') w := by
  obtain ⟨D0, hown, hperm, hsize⟩ := h.owns
  have hseq : SeqGives Fence.wide 2 Try.prog 74 #[.pointer (some ⟨g, 0, none⟩)] encZ (fun ss => ss.Perm (intKeys D0)) (Maps.size D0) w :=
    AnyZI.keys_gives (ρ := keysA_ren) { keysA with } Fence.wide _ trivial rfl (by omega) g b l.length D0 _ (World.block_lt_of_cell? _ _ hg) hg hown
  have cS := AnyZI.sorted_in sortedA Fence.wide 5 trivial trivial trivial trivial rfl (by omega) (sortsA _) (enters_of Try.func73 (by kernel_rfl) rfl) 74 #[.pointer (some ⟨g, 0, none⟩)] trivial (enters_of Try.func74 (by kernel_rfl) rfl) _ _ (by rw [hsize]; simp only [maxLen]; omega) (by rw [hsize]; omega) _ hseq
  change CallsIn _ _ Try.prog 62 _ _ _ at cS
  refine ⟨(callsIn_wide.1 cS).mono fun e w' ⟨v, ss, h1, hS, hrow, hnil, hb⟩ => ⟨v, h1, ?_, ?_, hb⟩⟩
  · have e1 : ss.mergeSort (fun x y => decide (x ≤ y)) = (l.map (·.1)).mergeSort leI := mergeSort_of_perm_i (hS.trans hperm)
    rw [e1] at hrow
    have hlen : (((l.map (·.1)).mergeSort leI).map (Value.int .i64)).length = ss.length := by
      rw [List.length_map, ← e1, List.length_mergeSort]
    refine ⟨by simp, ?_⟩
    rw [hlen]
    rcases hrow.2 with h | ⟨gb, cap, cur, rfl, hbase, hgb, r1, r2, r3, r4⟩
    · exact .inl h
    · exact .inr ⟨gb, cap, cur, rfl, Nat.zero_le _, hgb, r1, r2, r3, r4⟩
  · intro k hk
    rcases hrow.2 with ⟨rfl, _⟩ | ⟨gb, cap, cur, rfl, hbase, _⟩
    · cases hk
    · have : gb = k := by simpa [Value.ownBlock] using hk
      omega
/-- The numbers that a table knows, rising. -/
def IdsOf (V : LkV) (ids : List Int) : Prop := ids.Pairwise (· < ·) ∧ ∀ id, id ∈ ids ↔ V id ≠ none
theorem asc_ext : ∀ (l l' : List Int), l.Pairwise (· < ·) → l'.Pairwise (· < ·) → (∀ a, a ∈ l ↔ a ∈ l') → l = l'
  | [], [], _, _, _ => rfl
  | [], b :: l', _, _, h => absurd ((h b).2 (by simp)) (by simp)
  | a :: l, [], _, _, h => absurd ((h a).1 (by simp)) (by simp)
  | a :: l, b :: l', h1, h2, h => by
    obtain ⟨p1, p2⟩ := List.pairwise_cons.1 h1
    obtain ⟨q1, q2⟩ := List.pairwise_cons.1 h2
    have e : a = b := by
      have ha := (h a).1 (by simp)
      have hb := (h b).2 (by simp)
      rcases List.mem_cons.1 ha with e | ha
      · exact e
      · rcases List.mem_cons.1 hb with e | hb
        · exact e.symm
        · have := q1 a ha
          have := p1 b hb
          omega
    subst e
    rw [asc_ext l l' p2 q2 fun x => ?_]
    constructor
    · intro hx
      have := p1 x hx
      rcases List.mem_cons.1 ((h x).1 (by simp [hx])) with e | hx'
      · omega
      · exact hx'
    · intro hx
      have := q1 x hx
      rcases List.mem_cons.1 ((h x).2 (by simp [hx])) with e | hx'
      · omega
      · exact hx'
theorem idsOf_one {V : LkV} {ids ids' : List Int} (h : IdsOf V ids) (h' : IdsOf V ids') : ids = ids' :=
  asc_ext _ _ h.1 h'.1 fun a => (h.2 a).trans (h'.2 a).symm
theorem keys_iff (T : List (Int × Hd)) (h : (T.map (·.1)).Nodup) (id : Int) : id ∈ T.map (·.1) ↔ absT T id ≠ none := by
  refine ⟨fun hm => ?_, keys_of T id⟩
  obtain ⟨p, hp, rfl⟩ := List.mem_map.1 hm
  rw [absT, getK_of_mem h (show (p.1, p.2) ∈ T from hp)]
  simp
theorem Ids37 {hu : Nat} {c : Nat → Nat} {w : World} {g n : Nat} {le : Int} {V : LkV} (h : LkS hu c w g le n V) (hn : n ≤ 100000) :
    CallP Try.prog 37 #[.pointer (some ⟨g, 0, none⟩)] (fun u w' => ∃ ids, IdsOf V ids ∧ ids.length ≤ n ∧ Own 3 w' u (ids.map (Value.int .i64)) ∧ Fresh w.heap.size u ∧ Below w.heap.size w w') w := by
  obtain ⟨bm, T, h, rfl, hTl⟩ := h
  refine ⟨S37.calls _ _ _ ?_⟩
  unfold S37
  have c1 : w.cell? ⟨g, 1, none⟩ = some (.map (some bm)) := h.blk.cell 1
  (repeat with_reducible first | refine fd t1 (by decide) ?_ | refine ld one70 c1 ?_ | refine nck ?_ | refine cdT ?_ | refine cdF ?_ | refine gdY ?_ | refine gdFT ?_ | refine gdTF ?_ | refine gdU ?_ | refine gaY ?_ | refine gaFT ?_ | refine gaTF ?_ | refine pickT ?_ | refine pickF ?_ | refine bi_lss_t (by omega) ?_ | refine bi_lss_f (by omega) ?_ | refine bi_add64 (by omega) ?_ | refine bi_sub64 (by omega) ?_ | refine bi_eql_t (by omega) ?_ | refine bi_eql_f (by omega) ?_ | refine bi_neq_t (by omega) ?_ | refine bi_neq_f (by omega) ?_ | refine bi_gtr_t (by omega) ?_ | refine bi_gtr_f (by omega) ?_ | refine bi_leq_t (by omega) ?_ | refine bi_leq_f (by omega) ?_ | refine bi_geq_t (by omega) ?_ | refine bi_geq_f (by omega) ?_ | refine bi_xt0 ?_ | refine bi_xt1 ?_ | refine bi_xt2 ?_ | refine bi_xt3 ?_ | refine bi_T ?_ | refine bi_F ?_ | refine bi_not ?_ | refine bi_and ?_ | refine bi_or ?_ | refine bi_xor ?_ | refine bi_shr (by omega) (by decide) ?_ | refine bi_shl (by omega) (by decide) ?_ | refine bi_quo64 (by omega) ?_ | refine bi_rem64 (by omega) ?_ | refine bi_mul64 (by omega) ?_ | refine bi_neg ?_ | refine bi_un_xor32 ?_ | refine bi_add ?_ | refine bi_sub ?_ | refine bi_mul ?_ | refine bi_quo (by decide) ?_ | refine bi_rem (by decide) ?_)
  refine (keys_spec bm w).mono ?_
  rintro _ w1 ⟨rfl, hw1⟩
  have hb1 : Below w.heap.size w w1 := by rw [hw1]; exact (Below.refl _ _).alloc (Nat.le_refl _) _
  have hc : w1.cell? ⟨w.heap.size, 0, none⟩ = some (.map (some bm)) := by
    rw [hw1]
    exact (Blk.new w 70 #[.map (some bm)]).cell 0
  refine (sorted_spec bm w.heap.size _ w1 (h.map.below hb1) hc (by rw [List.length_map]; omega)).mono ?_
  rintro u w2 ⟨ho, hf, h2⟩
  rw [List.map_map] at ho
  have hnd := h.nodup
  refine ⟨(T.map (·.1)).mergeSort leI, ⟨?_, fun id => ?_⟩, ?_, ho, fun k hk => by have := hf k hk; have := hb1.size; omega, below_then hb1 h2⟩
  · have hs := List.pairwise_mergeSort (le := leI) (fun a b c h1 h2 => by simp only [leI, decide_eq_true_eq] at *; omega) (fun a b => by simp only [leI, Bool.or_eq_true, decide_eq_true_eq]; omega) (T.map (·.1))
    have hnd' : ((T.map (·.1)).mergeSort leI).Nodup := (List.mergeSort_perm _ _).nodup_iff.2 hnd
    refine (hs.and hnd').imp fun ⟨h1, h2⟩ => ?_
    simp only [leI, decide_eq_true_eq] at h1
    have : ∀ {a b : Int}, a ≤ b → a ≠ b → a < b := fun _ _ => by omega
    exact this h1 h2
  · rw [(List.mergeSort_perm _ _).mem_iff]
    exact keys_iff T hnd id
  · rw [List.length_mergeSort, List.length_map]; exact hTl
end Go.Proofs.Ytcihbjempijhpaa.E
