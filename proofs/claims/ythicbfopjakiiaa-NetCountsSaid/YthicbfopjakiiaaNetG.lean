/- A letter that came in. -/
import Derived.Test.YthicbfopjakiiaaNetF
namespace Go.Proofs.Ythicbfopjakiiaa.E
open Go Go.RowKit
set_option linter.unusedSimpArgs false
set_option linter.unusedVariables false

abbrev LetterT := Int × Int × Int × Int × Int × Int × Int × ByteArray × ByteArray × List PairT × List IntentT × Int × Bool × ByteArray × Unit
abbrev rLetter : Rdr LetterT := rCons 1 (rI .i64) (rCons 1 (rI .i64) (rCons 1 (rI .i64) (rCons 1 (rI .i64) (rCons 1 (rI .i64) (rCons 1 (rI .i64) (rCons 1 (rI .i64)
  (rCons 1 rS (rCons 1 rS (rCons 1 Pairs (rCons 1 Intents (rCons 1 (rI .i64) (rCons 1 rBool (rCons 1 rS rNil)))))))))))))
theorem und25 : Try.prog.underlying 25 = some (.int .i64) := by kernel_rfl
theorem opens_Pairs : Opens Try.prog 55 Pairs := opens_row und55 (by kernel_rfl) (opens_struct Try.underlying64 (by kernel_rfl) (opensF_cons rfl (by kernel_rfl) (by decide) (opens_string und9) (opensF_cons rfl (by kernel_rfl) (by decide) (opens_string und9) opensF_nil)))
theorem opens_Intents : Opens Try.prog 56 Intents := opens_row und56 (by kernel_rfl) (opens_struct Try.underlying68 (by kernel_rfl) (opensF_cons rfl (by kernel_rfl) (by decide) (opens_string und9) (opensF_cons rfl (by kernel_rfl) (by decide) (opens_int und3) (opensF_cons rfl (by kernel_rfl) (by decide) (opens_bool und4) opensF_nil))))
theorem opens_Letter : Opens Try.prog 58 rLetter := opens_struct Try.underlying58 (by kernel_rfl)
  (opensF_cons rfl (by kernel_rfl) (by decide) (opens_int und3) (opensF_cons rfl (by kernel_rfl) (by decide) (opens_int und3) (opensF_cons rfl (by kernel_rfl) (by decide) (opens_int und3) (opensF_cons rfl (by kernel_rfl) (by decide) (opens_int und3)
  (opensF_cons rfl (by kernel_rfl) (by decide) (opens_int und3) (opensF_cons rfl (by kernel_rfl) (by decide) (opens_int und3) (opensF_cons rfl (by kernel_rfl) (by decide) (opens_int und3)
  (opensF_cons rfl (by kernel_rfl) (by decide) (opens_string und9) (opensF_cons rfl (by kernel_rfl) (by decide) (opens_string und9) (opensF_cons rfl (by kernel_rfl) (by decide) opens_Pairs (opensF_cons rfl (by kernel_rfl) (by decide) opens_Intents
  (opensF_cons rfl (by kernel_rfl) (by decide) (opens_int und25) (opensF_cons rfl (by kernel_rfl) (by decide) (opens_bool und4) (opensF_cons rfl (by kernel_rfl) (by decide) (opens_string und9) opensF_nil))))))))))))))
theorem letter_cells {w : World} {cs : List Value} {z : LetterT} (h : rLetter w cs z) : ∃ L : Let, ∃ p q ps is, cs = (L.cells p q).toList ∧ Pairs w [p] ps ∧ Intents w [q] is := by
  obtain ⟨r, rfl, _, h⟩ := rCons_I h
  obtain ⟨r, rfl, _, h⟩ := rCons_I h
  obtain ⟨r, rfl, _, h⟩ := rCons_I h
  obtain ⟨r, rfl, _, h⟩ := rCons_I h
  obtain ⟨r, rfl, _, h⟩ := rCons_I h
  obtain ⟨r, rfl, _, h⟩ := rCons_I h
  obtain ⟨r, rfl, _, h⟩ := rCons_I h
  obtain ⟨r, rfl, _, h⟩ := rCons_S h
  obtain ⟨r, rfl, _, h⟩ := rCons_S h
  obtain ⟨p, r, rfl, hp, h⟩ := rCons_Row h
  obtain ⟨q, r, rfl, hq, h⟩ := rCons_Row h
  obtain ⟨r, rfl, _, h⟩ := rCons_I h
  obtain ⟨r, rfl, h9⟩ := rCons_Bool h
  obtain ⟨r, rfl, _, h⟩ := rCons_S h9
  have : r = [] := h
  subst this
  exact ⟨⟨_, _, _, _, _, _, _, _, _, _, _, _⟩, p, q, _, _, rfl, hp, hq⟩
theorem NetKeeps_law (c : Array Value) (z : LetterT) (w : World) (h : rLetter w c.toList z) : CallP Try.prog 7 #[.agg c] (fun r w' => r = .bool true ∧ Below w.heap.size w w') w := by
  obtain ⟨L, p, q, ps, is, e, hp, hq⟩ := letter_cells h
  have : c = L.cells p q := by rw [← Array.toArray_toList (xs := c), e, Array.toArray_toList]
  subst this
  exact NetKeeps_spec L p q ps is w hp hq
end Go.Proofs.Ythicbfopjakiiaa.E
