import Derived.Test.YtmnaggdhkggjhaaGreatDoorMd
import Derived.Test.YtmnaggdhkggjhaaGreatDoorM5
import Derived.Test.YtmnaggdhkggjhaaGreatDoorM8
namespace Go.Proofs.YtmnaggdhkggjhaaGreatDoor.E
open Go Go.RowKit
set_option linter.unusedSimpArgs false
set_option linter.unusedVariables false

theorem Rising.filter {α : Type} {l : List (Int × α)} (h : Rising l) (q : Int × α → Bool) : Rising (l.filter q) := List.Pairwise.sublist List.filter_sublist h
end Go.Proofs.YtmnaggdhkggjhaaGreatDoor.E
namespace Go.Proofs.YtmnaggdhkggjhaaGreatDoor.E
open Go Go.RowKit
set_option linter.unusedSimpArgs false
set_option linter.unusedVariables false

section
variable {hu : Nat} {c c' : Nat → Nat} {x : Nat} {w : World} {m : Rp} {C : Cli} {g bm : Nat} {T : List (Int × Cli)} {V : Int → VC} {N : Nat}
theorem RpAt.re1 (h : RpAt c x w m) (hc : ∀ k, k < w.heap.size → c k = x → c' k = c k) : RpAt c' x w m := ⟨h.own, fun b hb => by rw [hc b (h.own.lt hb) (h.hue b hb)]; exact h.hue b hb, h.ok, h.len⟩
theorem CliAt.re1 (h : CliAt c x w C) (hc : ∀ k, k < w.heap.size → c k = x → c' k = c k) : CliAt c' x w C :=
  ⟨(hc _ h.blk.lt h.hue).trans h.hue, (hc _ h.map.lt h.huem).trans h.huem, h.blk, h.map, fun p hp => (h.el p hp).re1 hc⟩
/-- Colours of its own alone matter to a table. -/
theorem TabV.re1 (h : TabV hu c w g V N) (hc : ∀ k, k < w.heap.size → c k % 1000 = hu → c' k = c k) : TabV hu c' w g V N := by
  obtain ⟨T, ⟨bm, h1⟩, h2, h3⟩ := h.out
  have e := Nat.mod_eq_of_lt h1.hh.2
  refine ⟨h.good, T, ⟨bm, h1.hh, (hc g h1.blk.lt (by rw [h1.hue, e])).trans h1.hue, (hc bm h1.map.lt (by rw [h1.huem, e])).trans h1.huem, h1.blk, h1.map, fun p hp => ⟨(h1.el p hp).1, (h1.el p hp).2.re1 fun k hk hkx => hc k hk (by rw [hkx, hueC_mod h1.hh.2])⟩⟩, h2, h3⟩
end
theorem sz30 : (Tryz.prog.info? 25).map (·.size) = some 1 := by kernel_rfl
theorem one30 : oneB Tryz.prog 25 = true := by kernel_rfl
end Go.Proofs.YtmnaggdhkggjhaaGreatDoor.E

namespace Go.Proofs.YtmnaggdhkggjhaaGreatDoor.E
open Go Go.RowKit
set_option linter.unusedSimpArgs false
set_option linter.unusedVariables false

theorem and1 (a : Int) : bits .and .i64 a 1 = 0 ∨ bits .and .i64 a 1 = 1 := by
  have h : ∀ x : BitVec 64, (x &&& 1#64) = 0#64 ∨ (x &&& 1#64) = 1#64 := fun x => by
    have e : (x &&& 1#64).toNat = x.toNat % 2 := by rw [BitVec.toNat_and]; exact Nat.and_one_is_mod _
    rcases Nat.mod_two_eq_zero_or_one x.toNat with h | h
    · left; apply BitVec.eq_of_toNat_eq; rw [e, h]; rfl
    · right; apply BitVec.eq_of_toNat_eq; rw [e, h]; rfl
  show IntKind.i64.wrap ((BitVec.ofInt 64 a &&& BitVec.ofInt 64 1).toNat : Int) = 0 ∨ IntKind.i64.wrap ((BitVec.ofInt 64 a &&& BitVec.ofInt 64 1).toNat : Int) = 1
  rcases h (BitVec.ofInt 64 a) with h | h
  · left
    have : BitVec.ofInt 64 a &&& BitVec.ofInt 64 1 = 0#64 := h
    rw [this]; rfl
  · right
    have : BitVec.ofInt 64 a &&& BitVec.ofInt 64 1 = 1#64 := h
    rw [this]; rfl
end Go.Proofs.YtmnaggdhkggjhaaGreatDoor.E
namespace Go.Proofs.YtmnaggdhkggjhaaGreatDoor.E
open Go Go.RowKit
set_option linter.unusedSimpArgs false
set_option linter.unusedVariables false

end Go.Proofs.YtmnaggdhkggjhaaGreatDoor.E
namespace Go.Proofs.YtmnaggdhkggjhaaGreatDoor.E
open Go Go.RowKit
set_option linter.unusedSimpArgs false
set_option linter.unusedVariables false

end Go.Proofs.YtmnaggdhkggjhaaGreatDoor.E
namespace Go.Proofs.YtmnaggdhkggjhaaGreatDoor.E
open Go Go.RowKit
set_option linter.unusedSimpArgs false
set_option linter.unusedVariables false

end Go.Proofs.YtmnaggdhkggjhaaGreatDoor.E
namespace Go.Proofs.YtmnaggdhkggjhaaGreatDoor.E
open Go Go.RowKit
set_option linter.unusedSimpArgs false
set_option linter.unusedVariables false

theorem z47 : (Tryz.prog.info? 41).bind (·.zero) = some (.agg #[.int .i64 0, .int .i64 0, .int .i64 0, .int .i64 0, .bool false, .slice none 0 0, .slice none 0 0, .int .i64 0]) := by kernel_rfl
end Go.Proofs.YtmnaggdhkggjhaaGreatDoor.E
namespace Go.Proofs.YtmnaggdhkggjhaaGreatDoor.E
open Go Go.RowKit
set_option linter.unusedSimpArgs false
set_option linter.unusedVariables false

theorem und54 : Tryz.prog.underlying 27 = some (.array 2 25) := by kernel_rfl
theorem sz54 : (Tryz.prog.info? 27).map (·.size) = some 2 := by kernel_rfl
theorem z54 : (Tryz.prog.info? 27).bind (·.zero) = some (.agg #[.pointer none, .pointer none]) := by kernel_rfl
end Go.Proofs.YtmnaggdhkggjhaaGreatDoor.E
namespace Go.Proofs.YtmnaggdhkggjhaaGreatDoor.E
open Go Go.RowKit
set_option linter.unusedSimpArgs false
set_option linter.unusedVariables false

/-- Colours above n are given up. -/
def clrN (n : Nat) (c : Nat → Nat) : Nat → Nat := fun k => if c k % 1000 ≤ n ∨ c k = 999 then c k else 0
theorem clr_zero {n : Nat} {c : Nat → Nat} {k : Nat} (h : c k = 0) : clrN n c k = 0 := by simp only [clrN]; rw [if_pos (.inl (by rw [h]; omega)), h]
theorem clr_free {n ho : Nat} (h : n < ho) (h9 : ho < 999) (c : Nat → Nat) (k : Nat) : clrN n c k % 1000 ≠ ho := by
  simp only [clrN]
  split
  · rename_i h; rcases h with h | h <;> omega
  · omega
theorem TabV.clr {hu n : Nat} {c : Nat → Nat} {w : World} {g : Nat} {V : Int → VC} {N : Nat} (h : TabV hu c w g V N) (hn : hu ≤ n) : TabV hu (clrN n c) w g V N := h.re1 fun k _ hk => by
  simp only [clrN]; rw [if_pos (.inl (by omega))]
theorem RefV.clr {hu n : Nat} {c : Nat → Nat} {w : World} {g : Nat} {V : Int → VC} {N : Nat} (h : RefV hu c w g V N) (hn : hu ≤ n) : RefV hu (clrN n c) w g V N := by
  obtain ⟨vL, vF, L, F, h1, h2⟩ := h.out
  have e1 : ∀ k, c k = hu → clrN n c k = c k := fun k hk => by
    have := h1.hh
    simp only [clrN]; rw [if_pos (.inl (by omega))]
  have e2 : ∀ k, c k = 999 → clrN n c k = c k := fun k hk => by simp only [clrN]; rw [if_pos (.inr hk)]
  exact ⟨h.good, vL, vF, L, F, ⟨h1.hh, (e1 _ h1.hue).trans h1.hue, h1.blk, h1.rowL, h1.rowF, fun k hk => (e1 k (h1.hueL k hk)).trans (h1.hueL k hk), fun k hk => (e1 k (h1.hueF k hk)).trans (h1.hueF k hk), fun x hx => (h1.el x hx).re' fun k hk => e2 k ((h1.el x hx).hue k hk)⟩, h2⟩
theorem keepT {c : Nat → Nat} {w : World} {g0 g1 : Nat} {V U : Int → VC} {N : Nat} (b : Bool) (id n : Int) (R : Rep) (p q : Value) (vs : List ValT) (rows : List RowT) (hA : TabV 1 c w g0 V N) (hB : TabV 2 c w g1 U N)
    (hp : Vals w [p] vs) (hpc : ∀ hu, 0 < hu → (vs = [] ∨ ∀ k, p.ownBlock = some k → c k % 1000 ≠ hu)) (hq : RowsR w [q] rows) (hvl : vs.length ≤ 1000) (hN : N < 1000000) :
    CallP Tryz.prog 7 #[.pointer (some ⟨if b then g1 else g0, 0, none⟩), .int .i64 id, .int .i64 n, .agg (R.cells p q)]
      (fun r w' => ∃ c', (∀ k, k < w.heap.size → c' k = c k) ∧ TabV 1 c' w' g0 (if b then V else (keepQ V id n R vs rows.length).2) (N + 1) ∧ TabV 2 c' w' g1 (if b then (keepQ U id n R vs rows.length).2 else U) (N + 1) ∧ Turns (fun k => c k % 1000 = 1 ∨ c k % 1000 = 2) w w') w := by
  cases b with
  | false =>
    refine (Keep_V id n R p q vs rows hA hp (hpc 1 (by decide)) hq hvl hN).mono ?_
    rintro _ w' ⟨rfl, c', hc, hT, hTu⟩
    exact ⟨c', hc, hT, (hB.other hTu (by decide) hc).mono (by omega), hTu.mono fun k _ e => .inl e⟩
  | true =>
    refine (Keep_V id n R p q vs rows hB hp (hpc 2 (by decide)) hq hvl hN).mono ?_
    rintro _ w' ⟨rfl, c', hc, hT, hTu⟩
    exact ⟨c', hc, (hA.other hTu (by decide) hc).mono (by omega), hT, hTu.mono fun k _ e => .inr e⟩
theorem keepM {c : Nat → Nat} {w : World} {g0 g1 : Nat} {V U : Int → VC} {N : Nat} (b : Bool) (id n : Int) (R : Rep) (p q : Value) (vs : List ValT) (rows : List RowT) (hA : RefV 3 c w g0 V N) (hB : RefV 4 c w g1 U N)
    (hp : Vals w [p] vs) (hq : RowsR w [q] rows) (hvl : vs.length ≤ 1000) (hN : N ≤ 60000) :
    CallP Tryz.prog 8 #[.pointer (some ⟨if b then g1 else g0, 0, none⟩), .int .i64 id, .int .i64 n, .agg (R.cells p q)]
      (fun r w' => ∃ c', (∀ k, k < w.heap.size → c' k = c k) ∧ RefV 3 c' w' g0 (if b then V else (keepQ V id n R vs rows.length).2) (N + 1) ∧ RefV 4 c' w' g1 (if b then (keepQ U id n R vs rows.length).2 else U) (N + 1) ∧ Turns (fun k => c k % 1000 = 3 ∨ c k % 1000 = 4) w w') w := by
  cases b with
  | false =>
    refine (refKeep_V id n R p q vs rows hA hp hq hvl hN).mono ?_
    rintro _ w' ⟨rfl, c', hc, hT, hTu⟩
    exact ⟨c', hc, hT, (hB.on hTu (by decide) (by decide) hc).mono (by omega), hTu.mono fun k _ e => .inl e⟩
  | true =>
    refine (refKeep_V id n R p q vs rows hB hp hq hvl hN).mono ?_
    rintro _ w' ⟨rfl, c', hc, hT, hTu⟩
    exact ⟨c', hc, (hA.on hTu (by decide) (by decide) hc).mono (by omega), hT, hTu.mono fun k _ e => .inr e⟩
theorem TabV.on {hu : Nat} {c c' : Nat → Nat} {w w' : World} {g : Nat} {V : Int → VC} {N : Nat} {G : Nat → Prop} (h : TabV hu c w g V N) (hT : Turns G w w') (hG : ∀ k, G k → c k % 1000 ≠ hu) (hc : ∀ k, k < w.heap.size → c' k = c k) : TabV hu c' w' g V N :=
  (h.re hc).turns hT.cut fun k hk => by rw [hc k hk.2]; exact hG k hk.1
theorem RefV.on' {hu : Nat} {c c' : Nat → Nat} {w w' : World} {g : Nat} {V : Int → VC} {N : Nat} {G : Nat → Prop} (h : RefV hu c w g V N) (hT : Turns G w w') (hG : ∀ k, G k → c k % 1000 ≠ hu ∧ c k ≠ 999) (hc : ∀ k, k < w.heap.size → c' k = c k) : RefV hu c' w' g V N :=
  (h.re hc).turns hT.cut fun k hk => by rw [hc k hk.2]; exact hG k hk.1
theorem und56 : Tryz.prog.underlying 33 = some (.array 2 28) := by kernel_rfl
theorem sz56 : (Tryz.prog.info? 33).map (·.size) = some 2 := by kernel_rfl
theorem sz41 : (Tryz.prog.info? 28).map (·.size) = some 1 := by kernel_rfl
theorem one41 : oneB Tryz.prog 28 = true := by kernel_rfl
theorem z56 : (Tryz.prog.info? 33).bind (·.zero) = some (.agg #[.pointer none, .pointer none]) := by kernel_rfl
/-- What the first loop bears. -/
structure JoinsAt (w0 : World) (bt bm : Nat) (c : Nat → Nat) (w : World) (g0 g1 m0 m1 : Nat) (V U : Int → VC) (N : Nat) : Prop where
  a : TabV 1 c w g0 V N
  b : TabV 2 c w g1 U N
  x : RefV 3 c w m0 V N
  y : RefV 4 c w m1 U N
  inV : InP V
  inU : InP U
  old : ∀ k, k < w0.heap.size → c k = 0
  ct : c bt = 0
  cm : c bm = 0
  blkt : Blk w bt 27 #[.pointer (some ⟨g0, 0, none⟩), .pointer (some ⟨g1, 0, none⟩)]
  blkm : Blk w bm 33 #[.pointer (some ⟨m0, 0, none⟩), .pointer (some ⟨m1, 0, none⟩)]
  bel : Below w0.heap.size w0 w
theorem JoinsAt.below {w0 : World} {bt bm : Nat} {c : Nat → Nat} {w w' : World} {g0 g1 m0 m1 : Nat} {V U : Int → VC} {N : Nat} (h : JoinsAt w0 bt bm c w g0 g1 m0 m1 V U N) (hb : Below w.heap.size w w') : JoinsAt w0 bt bm (col c w.heap.size 0) w' g0 g1 m0 m1 V U N :=
  have hc := col_lt c w.heap.size 0
  ⟨(h.a.re hc).below hb, (h.b.re hc).below hb, (h.x.re hc).below hb, (h.y.re hc).below hb, h.inV, h.inU, fun k hk => by rw [hc k (by have := h.bel.size; omega)]; exact h.old k hk, by rw [hc _ h.blkt.lt]; exact h.ct, by rw [hc _ h.blkm.lt]; exact h.cm, h.blkt.below' hb, h.blkm.below' hb, below_then h.bel hb⟩
end Go.Proofs.YtmnaggdhkggjhaaGreatDoor.E
namespace Go.Proofs.YtmnaggdhkggjhaaGreatDoor.E
open Go Go.RowKit
set_option linter.unusedSimpArgs false
set_option linter.unusedVariables false

end Go.Proofs.YtmnaggdhkggjhaaGreatDoor.E
namespace Go.Proofs.YtmnaggdhkggjhaaGreatDoor.E
open Go Go.RowKit

/-- A text. -/
def tS (t : List UInt8) : Value := .string ⟨t.toArray⟩
theorem tS_of (s : ByteArray) : Value.string s = tS s.data.toList := by unfold tS; rw [Array.toArray_toList]
section
variable {P : Program} {K : Value → World → Prop} {S : World → Prop} {w : World} {ty : TypeId} {x y : Operand}
theorem pt_eql (t u : List UInt8) : PR P (binS .eql ty x y (tS t) (tS u)) (.bool (decide (t = u))) := by
  have h := pr_seql (P := P) (t := ty) (x := x) (y := y) (a := ⟨t.toArray⟩) (b := ⟨u.toArray⟩)
  simp only at h
  exact h
theorem pt_neq (t u : List UInt8) : PR P (binS .neq ty x y (tS t) (tS u)) (.bool (decide (t ≠ u))) := by
  have h := pr_sneq (P := P) (t := ty) (x := x) (y := y) (a := ⟨t.toArray⟩) (b := ⟨u.toArray⟩)
  simp only at h
  exact h
theorem tl_eql {t u : List UInt8} (k : K (.bool (decide (t = u))) w) : LiftP P (binS .eql ty x y (tS t) (tS u)) K w := ofPR (pt_eql t u) k
theorem tl_neq {t u : List UInt8} (k : K (.bool (decide (t ≠ u))) w) : LiftP P (binS .neq ty x y (tS t) (tS u)) K w := ofPR (pt_neq t u) k
end
end Go.Proofs.YtmnaggdhkggjhaaGreatDoor.E
namespace Go.Proofs.YtmnaggdhkggjhaaGreatDoor.E
open Go Go.RowKit

section
variable {P : Program} {K : Value → World → Prop} {S : World → Prop} {w : World} {ty : TypeId} {x y : Operand}
theorem dec_K {p : Prop} [Decidable p] (h1 : p → K (.bool true) w) (h2 : ¬ p → K (.bool false) w) : K (.bool (decide p)) w := by
  by_cases h : p
  · rw [decide_eq_true h]; exact h1 h
  · rw [decide_eq_false h]; exact h2 h
theorem tl_eql_t {t u : List UInt8} (h : t = u) (k : K (.bool true) w) : LiftP P (binS .eql ty x y (tS t) (tS u)) K w := tl_eql (dec_K (fun _ => k) (fun e => absurd h e))
theorem tl_neq_t {t u : List UInt8} (h : t ≠ u) (k : K (.bool true) w) : LiftP P (binS .neq ty x y (tS t) (tS u)) K w := tl_neq (dec_K (fun _ => k) (fun e => absurd h e))
theorem tl_neq_f {t u : List UInt8} (h : ¬ (t ≠ u)) (k : K (.bool false) w) : LiftP P (binS .neq ty x y (tS t) (tS u)) K w := tl_neq (dec_K (fun e => absurd e h) (fun _ => k))
end
section
variable {P : Program} {K : Value → World → Prop} {S : World → Prop} {w : World} {t : TypeId}
theorem bxB {cs : Array Value} (k : ∀ g w', g = w.heap.size → Blk w' g t cs → Below w.heap.size w w' → K (.pointer (some ⟨g, 0, none⟩)) w') : LiftP P (Instr.box t (.agg cs)) K w :=
  bx (k _ _ rfl (Blk.new w t cs) ((Below.refl _ _).alloc (Nat.le_refl _) _))
theorem alB {cs : Array Value} (hz : (P.info? t).bind (·.zero) = some (.agg cs)) (k : ∀ g w', g = w.heap.size → Blk w' g t cs → Below w.heap.size w w' → K (.pointer (some ⟨g, 0, none⟩)) w') : LiftP P (Instr.alloc t true (.tuple #[])) K w :=
  al hz (k _ _ rfl (Blk.new w t cs) ((Below.refl _ _).alloc (Nat.le_refl _) _))
theorem stB {g : Nat} {old cells : Array Value} (hb : Blk w g t old) (hi : (P.info? t).map (·.size) = some cells.size) (ho : old.size = cells.size) (h1 : cells.all (·.oneCell') = true)
    {K : Value → World → Prop} (k : ∀ w', Blk w' g t cells → Turns (fun j => j = g) w w' → K undef w') : LiftU P (Instr.storeAt t (.pointer (some ⟨g, 0, none⟩)) (.agg cells)) K w :=
  stA hb hi ho h1 (k _ (hb.row cells) (Turns.setRow (F := fun j => j = g) (Turns.refl _ w) (.inl rfl) _))
theorem Turns.own {B g : Nat} {w w' : World} (h : Turns (fun j => j = g) w w') (hg : B ≤ g) (hB : B ≤ w.heap.size) : Below B w w' := h.below hB fun k hk e => by omega
theorem below_own {W w w' : World} {g : Nat} (hb : Below W.heap.size W w) (h : Turns (fun j => j = g) w w') (hg : W.heap.size ≤ g) : Below W.heap.size W w' := hb.trans (h.own hg hb.size)
end
end Go.Proofs.YtmnaggdhkggjhaaGreatDoor.E
namespace Go.Proofs.YtmnaggdhkggjhaaGreatDoor.E
open Go Go.RowKit

section
variable {P : Program} {K : Value → World → Prop} {S : World → Prop} {w : World}
theorem zeroCells_one {zc : Array Value} (h1 : zc.all (·.oneCell') = true) (h0 : 0 < zc.size) (n : Nat) : ∀ v ∈ (Builtin.zeroCells zc n).toList, v.oneCell' = true := by
  intro v hv
  unfold Builtin.zeroCells at hv
  simp only [Array.toList_map, List.mem_map] at hv
  obtain ⟨i, _, rfl⟩ := hv
  have hi : i % zc.size < zc.size := Nat.mod_lt _ h0
  rw [getElem!_pos zc (i % zc.size) hi]
  exact (Array.all_eq_true_iff_forall_mem.1 h1) _ (Array.getElem_mem hi)
theorem zeroCells_size (zc : Array Value) (n : Nat) : (Builtin.zeroCells zc n).size = n * zc.size := by simp [Builtin.zeroCells]
theorem clr {t tt e ty : TypeId} {cs : Array Bool} {z : Value} {s : Nat} (ht : P.underlying t = some (.slice e)) (hz : (P.info? e).bind (·.zero) = some z) (hs : z.cells.size = s) (h1 : z.cells.all (·.oneCell') = true) (h0 : 0 < s)
    {g o n c : Nat} {cur : Array Value} (hb : Blk w g tt cur) (hl : o + n * s ≤ cur.size) (hn : 0 < n)
    (k : ∀ w' cur', Blk w' g tt cur' → cur'.size = cur.size → cur'.toList.take o = cur.toList.take o → Turns (fun j => j = g) w w' → K (.tuple #[]) w') :
    NextP P (builtin .clear #[t] ty cs #[.slice (some ⟨g, o, none⟩) n c]) K w := by
  obtain ⟨m, rfl⟩ : ∃ m, n = m + 1 := ⟨n - 1, by omega⟩
  have hZ := zeroCells_one h1 (by omega) (m + 1)
  have hZs := zeroCells_size z.cells (m + 1)
  have hr := run_storeCells_at (P := P) g o tt (Builtin.zeroCells z.cells (m + 1)).toList 0 cur w hb (by simp only [Array.length_toList, hZs, hs]; omega) hZ
  simp only [Nat.add_zero, Array.length_toList, hZs, hs] at hr
  have hlen : (Builtin.zeroCells z.cells (m + 1)).toList.length = (m + 1) * s := by rw [Array.length_toList, hZs, hs]
  obtain ⟨i, hi, hzz⟩ := Option.bind_eq_some_iff.1 hz
  have hrun : (Builtin.clear_ #[t] ty #[.slice (some ⟨g, o, none⟩) (m + 1) c]).run P w = (do storeCells ⟨g, o, none⟩ (Builtin.zeroCells z.cells (m + 1)).toList; pure (Value.tuple #[]) : Sem Value).run P w := by
    simp [Builtin.clear_, run_underlying ht, zeroValue, typeInfo, hi, hzz]
  generalize (Builtin.zeroCells z.cells (m + 1)).toList = Z at *
  have hrun2 : (Builtin.clear_ #[t] ty #[.slice (some ⟨g, o, none⟩) (m + 1) c]).run P w = .ok (.tuple #[]) (w.setRow g (cur.toList.take o ++ Z ++ cur.toList.drop (o + (m + 1) * s)).toArray) := by
    rw [hrun]; simp [hr]
  refine nextV (v := .tuple #[]) (w' := w.setRow g (cur.toList.take o ++ Z ++ cur.toList.drop (o + (m + 1) * s)).toArray) ?_ (k _ _ (hb.row _) ?_ ?_ (Turns.setRow (F := fun j => j = g) (Turns.refl _ w) (.inl rfl) _))
  · simp only [builtin] at hrun2 ⊢
    simp [hrun2]
  · simp only [List.size_toArray, List.length_append, List.length_take, List.length_drop, Array.length_toList, hlen]; omega
  · rw [List.toList_toArray, List.append_assoc, List.take_append_of_le_length (by simp only [List.length_take, Array.length_toList]; omega), List.take_take, Nat.min_self]
end
theorem add_add (a : Addr) (m n : Nat) : (a.add m).add n = a.add (m + n) := by
  unfold Addr.add
  by_cases hm : m = 0 <;> by_cases hn : n = 0 <;> simp [hm, hn, Nat.add_assoc]
/-- A row read from its j-th element on. -/
theorem rRow.cutFrom {α : Type} {s : Nat} {r : Rdr α} {w : World} {A : Option Addr} {c : Nat} {l : List α} (h : rRow s r w [.slice A l.length c] l) (j : Nat) (hj : j ≤ l.length) : rRow s r w [sliced A j l.length c s] (l.drop j) := by
  obtain ⟨A', c', he, hc, hm, h3⟩ := h
  simp only [List.cons.injEq, Value.slice.injEq, and_true, true_and] at he
  obtain ⟨rfl, rfl⟩ := he
  refine ⟨_, _, by rw [List.length_drop]; rfl, by rw [List.length_drop]; omega, by omega, fun i x hx => ?_⟩
  have hi : j + i < l.length := by
    have := (List.getElem?_eq_some_iff.1 hx).1
    rw [List.length_drop] at this; omega
  rw [List.getElem?_drop] at hx
  obtain ⟨a, us, rfl, hus, hcell, hr⟩ := h3 (j + i) x hx
  refine ⟨a.add (j * s), us, by rw [if_neg (by omega)]; rfl, hus, fun k u hu => ?_, hr⟩
  rw [add_add, ← Nat.add_assoc, ← Nat.add_mul]
  exact hcell k u hu
end Go.Proofs.YtmnaggdhkggjhaaGreatDoor.E
namespace Go.Proofs.YtmnaggdhkggjhaaGreatDoor.E
open Go Go.RowKit

end Go.Proofs.YtmnaggdhkggjhaaGreatDoor.E
namespace Go.Proofs.YtmnaggdhkggjhaaGreatDoor.E
open Go Go.RowKit
set_option linter.unusedSimpArgs false
set_option linter.unusedVariables false

end Go.Proofs.YtmnaggdhkggjhaaGreatDoor.E
