/-
  E12: slices of slices of bytes; caps.
-/
import Derived.Test.YtmnaggdhkggjhaaE11
namespace Go.Proofs.Ytmnaggdhkggjhaa.E
open Go Go.RowKit

/-- A [][]byte that reads as bss. -/
def RdSS (w : World) (v : Value) (bss : List (List UInt8)) : Prop :=
  ∃ A c, v = .slice A bss.length c ∧ bss.length ≤ c ∧ c ≤ 9223372036854775807 ∧ ∀ i (hi : i < bss.length), ∃ a A' n' c', A = some a ∧ w.cell? (a.add i) = some (.slice A' n' c') ∧ RdB w (.slice A' n' c') bss[i]
theorem RdSS.below {w w' : World} {v : Value} {bss : List (List UInt8)} (h : RdSS w v bss) (hb : Below w.heap.size w w') : RdSS w' v bss := by
  obtain ⟨A, c, rfl, h1, h2, h3⟩ := h
  refine ⟨A, c, rfl, h1, h2, fun i hi => ?_⟩
  obtain ⟨a, A', n', c', ha, hc, hr⟩ := h3 i hi
  exact ⟨a, A', n', c', ha, (hb.cell (World.block_lt_of_cell? w _ hc)).trans hc, hr.below hb⟩
theorem RdSS.at {w : World} {A : Option Addr} {n c : Nat} {bss : List (List UInt8)} (h : RdSS w (.slice A n c) bss) (i : Nat) (hi : i < bss.length) : ∃ a A' n' c', A = some a ∧ w.cell? (a.add i) = some (.slice A' n' c') ∧ RdB w (.slice A' n' c') bss[i] := by
  obtain ⟨A', c', he, _, _, h3⟩ := h
  cases he
  exact h3 i hi
theorem RdSS.slice {w : World} {v : Value} {bss : List (List UInt8)} (h : RdSS w v bss) : ∃ A c, v = .slice A bss.length c ∧ bss.length ≤ c ∧ c ≤ 9223372036854775807 := by
  obtain ⟨A, c, h0, h1, h2, _⟩ := h
  exact ⟨A, c, h0, h1, h2⟩
/-- A row of slices of its own. -/
theorem RdSS.of {w : World} {v : Value} {cs : List Value} {bss : List (List UInt8)} (h : Rd w v cs) (hl : cs.length = bss.length) (he : ∀ i (h1 : i < cs.length) (h2 : i < bss.length), RdB w cs[i] bss[i]) : RdSS w v bss := by
  obtain ⟨A, c, rfl, h1, h2, h3⟩ := h
  refine ⟨A, c, by rw [hl], by omega, h2, fun i hi => ?_⟩
  obtain ⟨a, ha, hc⟩ := h3 i _ (List.getElem?_eq_getElem (by omega))
  have hr := he i (by omega) hi
  obtain ⟨A', c', hs, _⟩ := hr.slice
  rw [hs] at hc hr
  exact ⟨a, A', _, c', ha, hc, hr⟩
section
variable {P : Program} {K : Value → World → Prop} {S : World → Prop} {w : World}
theorem cpx {t ty : TypeId} {e : TypeId} (h : P.underlying t = some (.slice e)) {cs : Array Bool} {A : Option Addr} {n c : Nat} (k : K (.int .i64 c) w) : NextP P (builtin .cap #[t] ty cs #[.slice A n c]) K w := by
  refine nextV ?_ k
  have he : P.elem t = e := by simp [Program.elem, h]
  have := run_cap_slice (P := P) w t ty A n c (by rw [he]; exact h)
  simp only [builtin] at this ⊢
  simp [this, goInt]
/-- y-rules for bytes -/
theorem yix1 {t e : TypeId} (h : P.underlying t = some (.slice e)) (hs : (P.info? e).map (·.size) = some 1) {a : Addr} {n c : Nat} {kd : IntKind} (i : Nat) (h1 : i < n)
    (k : K (.pointer (some (a.add i))) w) : YieldP P S (Instr.indexAt t (.slice (some a) n c) (.int kd (i : Int))) K w := by
  obtain ⟨j, hj, hs⟩ := Option.map_eq_some_iff.1 hs
  refine yld (v := .pointer (some (a.add i))) (fun w' _ => ?_) k
  simp [Instr.indexAt, run_underlying h, asIntOf, h1, sizeOf, typeInfo, hj, hs]
theorem yl1 {t : TypeId} (h : oneB P t = true) {a : Addr} {v : Value} (hc : ∀ w', S w' → w'.cell? a = some v) (k : K v w) : YieldP P S (Instr.loadAt t (.pointer (some a))) K w := yld (fun w' hw => run_load1 h (hc w' hw)) k
theorem ycv {s d : TypeId} {ks kd : IntKind} (hs : P.underlying s = some (.int ks)) (hd : P.underlying d = some (.int kd)) {n : Int} (k : K (.int kd (kd.wrap n)) w) : YieldP P S (convert s d (.int ks n)) K w :=
  yld (v := .int kd (kd.wrap n)) (fun w' _ => by simp [convert, run_underlying hs, run_underlying hd, Conv.intToInt]) k
end
end Go.Proofs.Ytmnaggdhkggjhaa.E
