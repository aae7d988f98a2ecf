import Derived.Test.YtadbpelpbaikiaaMc
namespace Go.Proofs.Ytadbpelpbaikiaa.E
open Go Go.RowKit
set_option linter.unusedSimpArgs false
set_option linter.unusedVariables false

end Go.Proofs.Ytadbpelpbaikiaa.E
namespace Go.Proofs.Ytadbpelpbaikiaa.E
open Go Go.RowKit
set_option linter.unusedSimpArgs false
set_option linter.unusedVariables false

theorem undSs : Try.prog.underlying 50 = some (.slice 9) := by kernel_rfl
theorem szSt : (Try.prog.info? 9).map (·.size) = some 1 := by kernel_rfl
theorem infSt : (Try.prog.info? 9).map (fun i => (i.zero, i.size, i.bytes)) = some (some (.string ⟨#[]⟩), 1, 16) := by kernel_rfl
abbrev Strs : Rdr (List ByteArray) := rRow 1 rS
theorem opens_Strs : Opens Try.prog 50 Strs := opens_row undSs (by kernel_rfl) (opens_string undT)
theorem All21 (v : Value) (l : List Txt) (w : World) (hv : Rd w v (l.map tS)) (hs : (allV l).length ≤ 900000) : CallP Try.prog 21 #[v] (fun r w' => r = tS (allV l) ∧ w' = w) w := by
  obtain ⟨A, c, rfl, hc, hm⟩ := hv.slice
  have hlen : (l.map tS).length = l.length := List.length_map _
  rw [hlen] at hv hc ⊢
  refine ⟨S21.calls _ _ _ ?_⟩
  unfold S21
  refine LoopP.inv2 (fun sv iv w' => ∃ i : Nat, i ≤ l.length ∧ iv = .int .i64 i ∧ sv = tS (allV (l.take i)) ∧ w' = w) (fun _ iv _ => l.length - (intOf iv).toNat) ⟨0, by omega, rfl, rfl, rfl⟩ ?_
  rintro _ _ _ ⟨i, hi, rfl, rfl, rfl⟩ J hJ
  dsimp only [List.headD_cons, List.tail_cons]
  refine ln undSs ?_
  refine bi_lss_c (fun h => ?_) (fun h => ?_)
  · have hi' : i < l.length := by omega
    obtain ⟨a, rfl, hca⟩ := hv.at i (by rw [hlen]; exact hi')
    rw [List.getElem_map] at hca
    have e1 : allV (l.take (i + 1)) = allV (l.take i) ++ l[i] ++ [124] := by rw [List.take_succ_eq_append_getElem hi', allV_append, allV_one, List.append_assoc]
    have e2 : (allV (l.take (i + 1))).length ≤ (allV l).length := by
      have e3 : allV l = allV (l.take (i + 1)) ++ allV (l.drop (i + 1)) := by rw [← allV_append, List.take_append_drop]
      rw [e3, List.length_append]; omega
    rw [e1] at e2
    simp only [List.length_append, List.length_cons, List.length_nil] at e2
    (repeat with_reducible first|refine z_b ?_)
    refine ix1 undSs szSt hi' ?_
    refine ld oneT hca ?_
    refine adT (by omega) ?_
    refine adT (a := allV (l.take i) ++ l[i]) (b := [124]) (by simp only [List.length_append, List.length_cons, List.length_nil]; omega) ?_
    (repeat with_reducible first|refine z_o (by omega) ?_)
    exact hJ _ _ _ ⟨i + 1, by omega, by simp, by rw [e1], rfl⟩ (by simp [intOf]; omega)
  · have : i = l.length := by omega
    subst this
    rw [List.take_length]
    (repeat with_reducible first|refine z_c ?_)
    exact ⟨rfl, rfl⟩
section
variable {P : Program}
theorem apOneU {K : Value → World → Prop} {w : World} {t ty e : TypeId} {cs : Array Bool} {z : Value} {bytes : Nat} (ht : P.underlying t = some (.slice e)) (hinfo : (P.info? e).map (fun i => (i.zero, i.size, i.bytes)) = some (some z, 1, bytes)) (hz : z.cells.size = 1)
    {v : Value} {xs : List Value} {n : Nat} (hown : w.ownsRow 0 e 1 v n xs) {u : Value} (h1 : u.oneCell' = true) (h63 : n + 1 ≤ 9223372036854775807) (hbytes : (n + 1) * bytes ≤ 140737488355328)
    (hb : (Instr.buildSlice t 1 #[(0, u)]).run P w = .ok (.slice (some ⟨w.heap.size, 0, none⟩) 1 1) (w.alloc (.cells #[u] e)))
    (k : ∀ v' w', w'.ownsRow 0 e 1 v' (n + 1) (xs ++ [u]) → (v'.ownBlock = v.ownBlock ∨ ∃ b, v'.ownBlock = some b ∧ w.heap.size ≤ b) → Turns (fun j => v.ownBlock = some j) w w' → K v' w') :
    LiftP P (Instr.buildSlice t 1 #[(0, u)]) (fun x w => NextP P (builtin .append #[t, t] ty cs #[v, x]) K w) w := by
  refine lift hb ?_
  have hB := Blk.new w e #[u]
  have ha := (Below.refl w.heap.size w).alloc (Nat.le_refl _) (.cells #[u] e)
  have hs := ha.size
  refine apGb ht hinfo hz (by decide) (ownsRow_turns hown (Turns.of_below (F := fun _ => False) ha) (fun _ _ h => h)) (a := ⟨w.heap.size, 0, none⟩) (m := 1) (c := 1) (news := [u]) (by simp) (fun j x hx => by
    rw [add0, Nat.zero_add, hB.cell j]
    simpa using hx) (by simpa using h1) h63 hbytes ?_
  intro v' w' ho hbl hT
  exact k v' w' ho (hbl.imp id fun h => ⟨_, h, hs⟩) ((Turns.of_below ha).trans (hT.mono fun j _ e => .inl e))
end
/-- A law's own row of texts. -/
def txO (v : Value) (l : List Txt) : Ob9 where
  hu := 8
  ok := fun c w => InC c 8 v ∧ w.ownsRow 0 9 1 v l.length (l.map tS)
  pos := by omega
  turns := fun h hT hG => ⟨h.1, ownsRow_turns h.2 hT fun k hk e => (hG k e).1 (h.1 k hk)⟩
  re := fun h hc => ⟨h.1.re (fun b hb => ownsRow_lt h.2 hb) hc, h.2⟩
theorem MemX.push {K : Value → World → Prop} {w0 w : World} {B : List Ob9} {v : Value} {l : List Txt} (h : MemX w0 w (txO v l :: B)) (hd : ∀ x ∈ B, x.hu ≠ 8) (hl : l.length ≤ 100000) (c : Txt) (k : ∀ v' w', MemX w0 w' (txO v' (l ++ [c]) :: B) → K v' w') :
    LiftP Try.prog (Instr.buildSlice 50 1 #[(0, tS c)]) (fun x w => NextP Try.prog (builtin .append #[50, 50] 50 #[false, false] #[v, x]) K w) w := by
  obtain ⟨d, ⟨h1, h2⟩, h3⟩ := h.one hd
  refine apOneU undSs infSt (by rfl) h2 rfl (by omega) (by omega) (by kernel_rfl) ?_
  intro v' w' ho hbl hT
  refine k v' w' (h3 (txO v' (l ++ [c])) w' ⟨col d w.heap.size 8, col_lt _ _ _, ⟨fun b hb => ?_, ?_⟩, hT.mono fun j _ e => h1 j e⟩)
  · rcases hbl with e | ⟨b', e, hb'⟩
    · rw [e] at hb
      rw [col_lt _ _ _ b (ownsRow_lt h2 hb)]
      exact h1 b hb
    · rw [e] at hb
      cases hb
      exact col_ge _ _ _ hb'
  · rw [List.length_append, List.map_append]
    exact ho
theorem MemX.txt {w0 w : World} {L : List Ob9} {v : Value} {l : List Txt} (h : MemX w0 w L) (hm : txO v l ∈ L) : Rd w v (l.map tS) := by
  obtain ⟨c, _, h2⟩ := h.look
  have h9 : Own 9 w v (l.map tS) := by
    have := (h2 _ hm).2
    unfold Own
    rwa [List.length_map]
  exact h9.rd
theorem MemX.tx0 {w0 w : World} {B : List Ob9} (h : MemX w0 w B) : MemX w0 w (txO (.slice none 0 0) [] :: B) := by
  obtain ⟨c, h1, h2⟩ := h.make
  refine h2 [txO (.slice none 0 0) []] w ⟨c, fun _ _ => rfl, fun x hx => ?_, Below.refl _ _⟩
  simp only [List.mem_cons, List.not_mem_nil, or_false] at hx
  subst hx
  exact ⟨InC.nil _ _ _ _, by simp, .inl ⟨rfl, rfl⟩⟩
end Go.Proofs.Ytadbpelpbaikiaa.E
