/- OnceNever: the walk. -/
import Derived.Test.YtmnaggdhkggjhaaOnR
namespace Go.Proofs.Ytmnaggdhkggjhaa.E
open Go Go.RowKit
set_option linter.unusedSimpArgs false
set_option linter.unusedVariables false

/-- A call with the pointers that it bears. -/
abbrev KA := ActT × Value × Value
def kaF (e : KA) : List Value := [.int .i64 e.1.1, .int .i64 e.1.cl, .int .i64 e.1.no, .int .i64 e.1.rep.code, .bool e.1.rep.there, e.2.1, e.2.2, .int .i64 e.1.rep.id]
theorem kaF_len (e : KA) : (kaF e).length = 8 := rfl
theorem act_whole {w : World} {A : Option Addr} {n c : Nat} {l : List ActT} (h : Acts w [.slice A n c] l) (i : Nat) (hi : i < l.length) :
    ∃ a p q, A = some a ∧ (∀ j u, (kaF (l[i], p, q))[j]? = some u → w.cell? ((a.add (i * 8)).add j) = some u) ∧ Vals w [p] l[i].vs ∧ RowsR w [q] l[i].rows := by
  obtain ⟨a, us, rfl, hus, hcell, hrd⟩ := rRow.at h i hi
  obtain ⟨r, rfl, _, hr⟩ := rCons_I hrd
  obtain ⟨r, rfl, _, hr⟩ := rCons_I hr
  obtain ⟨r, rfl, _, hr⟩ := rCons_I hr
  obtain ⟨h1, h2⟩ := hr
  obtain ⟨p, q, he, hp, hq⟩ := reply_cells h1
  have h0 : r.drop 5 = [] := h2
  have hr5 : r = (l[i].rep.cells p q).toList := by rw [← List.take_append_drop 5 r, h0, List.append_nil, he]; rfl
  subst hr5
  exact ⟨a, p, q, rfl, hcell, hp, hq⟩
theorem keepTwo {h0 : Nat} {c : Nat → Nat} {w : World} {g0 g1 : Nat} {V U : Int → VC} {N M : Nat} (b : Bool) (id n : Int) (R : Rep) (p q : Value) (vs : List ValT) (rows : List RowT) (hA : TabV h0 c w g0 V N) (hB : TabV 2 c w g1 U M) (hne : h0 ≠ 2)
    (hp : Vals w [p] vs) (hpc : ∀ hu, 0 < hu → (vs = [] ∨ ∀ k, p.ownBlock = some k → c k % 1000 ≠ hu)) (hq : RowsR w [q] rows) (hvl : vs.length ≤ 1000) (hN : N < 1000000) (hM : M < 1000000) :
    CallP Try.prog 11 #[.pointer (some ⟨if b then g1 else g0, 0, none⟩), .int .i64 id, .int .i64 n, .agg (R.cells p q)]
      (fun r w' => ∃ e V' U' c', r = .int .i64 e ∧ (∀ k, k < w.heap.size → c' k = c k) ∧ TabV h0 c' w' g0 V' (N + 1) ∧ TabV 2 c' w' g1 U' (M + 1) ∧ Turns (fun k => c k % 1000 = h0 ∨ c k % 1000 = 2) w w' ∧
        (e = 0 → badP id n = false ∧ (KnownV (V' id) n ∨ KnownV (U' id) n)) ∧ (∀ i m, KnownV (V i) m → KnownV (V' i) m) ∧ (∀ i m, KnownV (U i) m → KnownV (U' i) m)) w := by
  have hh := hA.hh
  cases b with
  | false =>
    refine (Keep_V id n R p q vs rows hA hp (hpc h0 hh.1) hq hvl hN).mono ?_
    rintro _ w' ⟨rfl, c', hc, hT, hTu⟩
    exact ⟨_, _, U, c', rfl, hc, hT, (hB.other hTu hne hc).mono (by omega), hTu.mono fun k _ e => .inl e, fun h => by
      obtain ⟨h1, h2⟩ := keepQ_new hA.good id n R vs rows.length h
      exact ⟨h1, .inl h2⟩, fun i m h => keepQ_known hA.good id n R vs rows.length i m h, fun _ _ h => h⟩
  | true =>
    refine (Keep_V id n R p q vs rows hB hp (hpc 2 (by decide)) hq hvl hM).mono ?_
    rintro _ w' ⟨rfl, c', hc, hT, hTu⟩
    exact ⟨_, V, _, c', rfl, hc, (hA.other hTu (fun e => hne e.symm) hc).mono (by omega), hT, hTu.mono fun k _ e => .inr e, fun h => by
      obtain ⟨h1, h2⟩ := keepQ_new hB.good id n R vs rows.length h
      exact ⟨h1, .inr h2⟩, fun _ _ h => h, fun i m h => keepQ_known hB.good id n R vs rows.length i m h⟩
theorem und54 : Try.prog.underlying 54 = some (.array 2 30) := by kernel_rfl
theorem sz54 : (Try.prog.info? 54).map (·.size) = some 2 := by kernel_rfl
theorem agg47 : aggB Try.prog 47 = true := by kernel_rfl
theorem z54 : (Try.prog.info? 54).bind (·.zero) = some (.agg #[.pointer none, .pointer none]) := by kernel_rfl
theorem inf47 : (Try.prog.info? 47).map (fun i => (i.zero, i.size, i.bytes)) = some (some (.agg #[.int .i64 0, .int .i64 0, .int .i64 0, .int .i64 0, .bool false, .slice none 0 0, .slice none 0 0, .int .i64 0]), 8, 96) := by kernel_rfl
theorem one_ka (e : KA) (hp : e.2.1.oneCell' = true) (hq : e.2.2.oneCell' = true) : ∀ u ∈ kaF e, u.oneCell' = true := by
  intro u hu
  simp only [kaF, List.mem_cons, List.not_mem_nil, or_false] at hu
  rcases hu with rfl | rfl | rfl | rfl | rfl | rfl | rfl | rfl <;> first | rfl | assumption
theorem row_ne {s : Nat} {e t : TypeId} {w : World} {v : Value} {n : Nat} {xs : List Value} {g : Nat} {cs : Array Value} (h : w.ownsRow 0 e s v n xs) (h' : Blk w g t cs) (ht : e ≠ t) : v.ownBlock ≠ some g := by
  rcases h.2 with ⟨rfl, _⟩ | ⟨g', c, cur, rfl, h0, hb, h1⟩
  · simp [Value.ownBlock]
  · intro he
    have : g' = g := by simpa [Value.ownBlock] using he
    exact blk_ne hb h' ht this
/-- The colours of two tables; all else is of none. -/
def clearC (h0 : Nat) (c : Nat → Nat) : Nat → Nat := fun k => if c k % 1000 = h0 ∨ c k % 1000 = 2 then c k else 0
theorem clearC_eq {h0 : Nat} {c : Nat → Nat} {k : Nat} (h : c k % 1000 = h0 ∨ c k % 1000 = 2) : clearC h0 c k = c k := by simp only [clearC]; rw [if_pos h]
theorem clearC_or (h0 : Nat) (c : Nat → Nat) (k : Nat) : clearC h0 c k % 1000 = h0 ∨ clearC h0 c k % 1000 = 2 ∨ clearC h0 c k = 0 := by
  simp only [clearC]
  split
  · rename_i h; rcases h with h | h
    · exact .inl h
    · exact .inr (.inl h)
  · exact .inr (.inr rfl)
theorem clearC_zero {h0 : Nat} {c : Nat → Nat} {k : Nat} (h : c k = 0) : clearC h0 c k = 0 := by
  simp only [clearC]
  split
  · exact h
  · rfl
/-- What the loop bears. -/
structure NeverAt (w0 : World) (bt : Nat) (h0 : Nat) (c : Nat → Nat) (w : World) (g0 g1 : Nat) (V U : Int → VC) (N M : Nat) (v : Value) (kl : List KA) : Prop where
  h13 : h0 = 1 ∨ h0 = 3
  a : TabV h0 c w g0 V N
  b : TabV 2 c w g1 U M
  old : ∀ k, k < w0.heap.size → c k = 0
  cbt : c bt = 0
  blk : Blk w bt 54 #[.pointer (some ⟨g0, 0, none⟩), .pointer (some ⟨g1, 0, none⟩)]
  bel : Below w0.heap.size w0 w
  few : ∀ k, c k % 1000 = h0 ∨ c k % 1000 = 2 ∨ c k = 0
  row : w.ownsRow 0 47 8 v kl.length (kl.flatMap kaF)
  frv : Fresh w0.heap.size v
  hue : InC c 0 v
  known : ∀ e ∈ kl, badP e.1.cl e.1.no = false ∧ (KnownV (V e.1.cl) e.1.no ∨ KnownV (U e.1.cl) e.1.no)
theorem NeverAt.clear {w0 : World} {bt h0 : Nat} {c : Nat → Nat} {w : World} {g0 g1 : Nat} {V U : Int → VC} {N M : Nat} {v : Value} {kl : List KA} (h13 : h0 = 1 ∨ h0 = 3)
  (a : TabV h0 c w g0 V N) (b : TabV 2 c w g1 U M) (old : ∀ k, k < w0.heap.size → c k = 0) (cbt : c bt = 0) (blk : Blk w bt 54 #[.pointer (some ⟨g0, 0, none⟩), .pointer (some ⟨g1, 0, none⟩)]) (bel : Below w0.heap.size w0 w)
  (row : w.ownsRow 0 47 8 v kl.length (kl.flatMap kaF)) (frv : Fresh w0.heap.size v) (hue : InC c 0 v) (known : ∀ e ∈ kl, badP e.1.cl e.1.no = false ∧ (KnownV (V e.1.cl) e.1.no ∨ KnownV (U e.1.cl) e.1.no)) :
    NeverAt w0 bt h0 (clearC h0 c) w g0 g1 V U N M v kl :=
  ⟨h13, a.re1 fun k _ hk => clearC_eq (.inl hk), b.re1 fun k _ hk => clearC_eq (.inr hk), fun k hk => clearC_zero (old k hk), clearC_zero cbt, blk, bel, clearC_or h0 c, row, frv, fun k hk => clearC_zero (hue k hk), known⟩
end Go.Proofs.Ytmnaggdhkggjhaa.E
