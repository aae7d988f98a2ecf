/-
  E8: from a row's own words to those of the shallow walk.
-/
import Derived.Test.YtmnaggdhkggjhaaE7
import Derived.OpenShut
namespace Go.Proofs.Ytmnaggdhkggjhaa.E
open Go Go.RowKit

theorem rd_of_row {w : World} {k : IntKind} {a : Option Addr} {len cap : Nat} {zs : List Int}
    (h : (a = none ∧ len = 0 ∧ cap = 0 ∧ zs = []) ∨ ∃ x, a = some x ∧ len ≤ cap ∧ cap ≤ maxLen ∧ zs.length = cap ∧ (∀ i, i < zs.length → w.cell? (x.add i) = some (.int k (zs.getD i 0))) ∧ ∀ n ∈ zs, (Lit.int k n).wf = true) :
    ∃ ys : List Int, ys.length = len ∧ Rd w (.slice a len cap) (ys.map (Value.int k)) ∧ ∀ n ∈ ys, (Lit.int k n).wf = true := by
  rcases h with ⟨rfl, rfl, rfl, rfl⟩ | ⟨x, rfl, hl, hm, hz, hc, hwf⟩
  · exact ⟨[], rfl, ⟨none, 0, rfl, Nat.le_refl _, by omega, fun i u hu => by simp at hu⟩, by simp⟩
  · refine ⟨zs.take len, by rw [List.length_take]; omega, ⟨some x, cap, by simp [List.length_take, hz, Nat.min_eq_left hl], by simp [List.length_take, hz, Nat.min_eq_left hl, hl], by simp only [maxLen] at hm; omega, fun i u hu => ⟨x, rfl, ?_⟩⟩, fun n hn => hwf n (List.mem_of_mem_take hn)⟩
    rw [List.getElem?_map, List.getElem?_take] at hu
    split at hu
    · rename_i hi
      have hlt : i < zs.length := by omega
      rw [hc i hlt]
      rw [List.getElem?_eq_getElem hlt] at hu
      simp only [Option.map_some, Option.some.injEq] at hu
      subst hu
      simp [List.getD_eq_getElem?_getD, List.getElem?_eq_getElem hlt]
    · cases hu

theorem rdB_of_row {w : World} {a : Option Addr} {len cap : Nat} {zs : List Int}
    (h : (a = none ∧ len = 0 ∧ cap = 0 ∧ zs = []) ∨ ∃ x, a = some x ∧ len ≤ cap ∧ cap ≤ maxLen ∧ zs.length = cap ∧ (∀ i, i < zs.length → w.cell? (x.add i) = some (.int .u8 (zs.getD i 0))) ∧ ∀ n ∈ zs, (Lit.int .u8 n).wf = true) :
    ∃ bs : List UInt8, bs.length = len ∧ RdB w (.slice a len cap) bs := by
  obtain ⟨ys, hl, hr, hwf⟩ := rd_of_row h
  refine ⟨ys.map fun n => UInt8.ofNat n.toNat, by simpa using hl, ?_⟩
  have : (ys.map fun n => UInt8.ofNat n.toNat).map u8 = ys.map (Value.int .u8) := by
    rw [List.map_map]
    refine List.map_congr_left fun n hn => ?_
    have := bounds_u8 (hwf n hn)
    show Value.int .u8 _ = Value.int .u8 n
    congr 1
    show (((UInt8.ofNat n.toNat).toNat : Nat) : Int) = n
    rw [UInt8.toNat_ofNat']
    omega
  unfold RdB
  rw [this]
  exact hr
theorem u32_of_wf {a : Int} (h : (Lit.int .u32 a).wf = true) : ∃ s : BitVec 32, a = (s.toNat : Int) := by
  have := bounds_u32 h
  refine ⟨BitVec.ofNat 32 a.toNat, ?_⟩
  rw [BitVec.toNat_ofNat]
  omega
theorem calls_of {P : Program} {f : FuncId} {args : Array Value} {w : World} (h : CallP P f args (fun r w' => r = .bool true ∧ Below w.heap.size w w') w) :
    Calls P f args w fun e w' => e = .returned (.bool true) ∧ Below w.heap.size w w' := h.out.mono fun e w' ⟨v, he, hv, hb⟩ => ⟨by rw [he, hv], hb⟩

end Go.Proofs.Ytmnaggdhkggjhaa.E
