import Derived.Test.YtadbpelpbaikiaaMc
namespace Go.Proofs.Ytadbpelpbaikiaa.E
open Go Go.RowKit
set_option linter.unusedSimpArgs false
set_option linter.unusedVariables false

end Go.Proofs.Ytadbpelpbaikiaa.E
namespace Go.Proofs.Ytadbpelpbaikiaa.E
open Go Go.RowKit
set_option linter.unusedSimpArgs false
set_option linter.unusedVariables false

abbrev ActT := Int × ByteArray × Int × Int × Unit
abbrev rAct : Rdr ActT := rCons 1 (rI .i64) (rCons 1 rS (rCons 1 (rI .i64) (rCons 1 (rI .i64) rNil)))
abbrev Acts : Rdr (List ActT) := rRow 4 rAct
theorem keeps_Acts : Keeps Acts := keeps_Row (keeps_Cons (keeps_I _) (keeps_Cons keeps_S (keeps_Cons (keeps_I _) (keeps_Cons (keeps_I _) keeps_Nil))))
theorem undAs : Try.prog.underlying 41 = some (.slice 46) := by kernel_rfl
theorem undSs : Try.prog.underlying 50 = some (.slice 9) := by kernel_rfl
theorem szAc : (Try.prog.info? 46).map (·.size) = some 4 := by kernel_rfl
theorem szSt : (Try.prog.info? 9).map (·.size) = some 1 := by kernel_rfl
theorem ac0 : fofs Try.prog 46 0 = some (0, 1) := by kernel_rfl
theorem ac1 : fofs Try.prog 46 1 = some (1, 1) := by kernel_rfl
theorem ac2 : fofs Try.prog 46 2 = some (2, 1) := by kernel_rfl
theorem ac3 : fofs Try.prog 46 3 = some (3, 1) := by kernel_rfl
theorem infSt : (Try.prog.info? 9).map (fun i => (i.zero, i.size, i.bytes)) = some (some (.string ⟨#[]⟩), 1, 16) := by kernel_rfl
theorem opens_Act : Opens Try.prog 46 rAct := opens_struct Try.underlying46 (by kernel_rfl) (opensF_cons rfl (by kernel_rfl) (by decide) (opens_int und3) (opensF_cons rfl (by kernel_rfl) (by decide) (opens_string undT) (opensF_cons rfl (by kernel_rfl) (by decide) (opens_int und3) (opensF_cons rfl (by kernel_rfl) (by decide) (opens_int und3) opensF_nil))))
theorem opens_Acts : Opens Try.prog 41 Acts := opens_row undAs (by kernel_rfl) opens_Act
def cmdT (x : ActT) : Txt := x.2.1.data.toList
/-- An act in memory, in every world behind. -/
structure ActAt (w0 : World) (a : Addr) (o : Nat) (x : ActT) : Prop where
  c0 : ∀ w', Below w0.heap.size w0 w' → w'.cell? ((a.add o).add 0) = some (.int .i64 x.1)
  c1 : ∀ w', Below w0.heap.size w0 w' → w'.cell? ((a.add o).add 1) = some (tS (cmdT x))
  c2 : ∀ w', Below w0.heap.size w0 w' → w'.cell? ((a.add o).add 2) = some (.int .i64 x.2.2.1)
  c3 : ∀ w', Below w0.heap.size w0 w' → w'.cell? ((a.add o).add 3) = some (.int .i64 x.2.2.2.1)
  w1 : -9223372036854775808 ≤ x.2.2.1 ∧ x.2.2.1 ≤ 9223372036854775807
  w2 : -9223372036854775808 ≤ x.2.2.2.1 ∧ x.2.2.2.1 ≤ 9223372036854775807
theorem wf_64 {n : Int} (h : (Lit.int .i64 n).wf = true) : -9223372036854775808 ≤ n ∧ n ≤ 9223372036854775807 := by
  simp [Lit.wf, IntKind.min, IntKind.max, IntKind.signed, IntKind.bits] at h
  omega
theorem act_at {w0 : World} {A : Option Addr} {n c : Nat} {l : List ActT} (h : Acts w0 [.slice A n c] l) (i : Nat) (hi : i < l.length) : ∃ a, A = some a ∧ ActAt w0 a (i * 4) l[i] := by
  obtain ⟨a, us, rfl, hus, hcell, hrd⟩ := rRow.at h i hi
  obtain ⟨r, rfl, h1, hrd⟩ := rCons_I hrd
  obtain ⟨r, rfl, h2, hrd⟩ := rCons_S hrd
  obtain ⟨r, rfl, h3, hrd⟩ := rCons_I hrd
  obtain ⟨r, rfl, h4, hrd⟩ := rCons_I hrd
  have keep : ∀ j u, w0.cell? ((a.add (i * 4)).add j) = some u → ∀ w', Below w0.heap.size w0 w' → w'.cell? ((a.add (i * 4)).add j) = some u := fun j u hc w' hb => by rw [hb.cell (World.block_lt_of_cell? _ _ hc), hc]
  exact ⟨a, rfl, keep 0 _ (hcell 0 _ rfl), keep 1 _ (by have := hcell 1 _ rfl; rw [this, tS_of]; rfl), keep 2 _ (hcell 2 _ rfl), keep 3 _ (hcell 3 _ rfl), wf_64 h3, wf_64 h4⟩
def sizes (l : List ActT) : Nat := (l.map fun x => (cmdT x).length).sum
def sizeM (l : List ActT) : Nat := (l.map fun x => min (cmdT x).length 4001).sum
theorem sizeM_take (l : List ActT) (i : Nat) (hi : i < l.length) : sizeM (l.take (i + 1)) = sizeM (l.take i) + min (cmdT l[i]).length 4001 := by
  unfold sizeM
  rw [List.take_succ_eq_append_getElem hi, List.map_append, List.sum_append]
  simp
theorem sizes_take (l : List ActT) (i : Nat) (hi : i < l.length) : sizes (l.take (i + 1)) = sizes (l.take i) + (cmdT l[i]).length := by
  unfold sizes
  rw [List.take_succ_eq_append_getElem hi, List.map_append, List.sum_append]
  simp
theorem sizeM_le : ∀ (l : List ActT), sizeM l ≤ 4000 → sizes l ≤ 4000
  | [], _ => by simp [sizes]
  | x :: t, h => by
    have e1 : sizeM (x :: t) = min (cmdT x).length 4001 + sizeM t := by simp [sizeM]
    have e2 : sizes (x :: t) = (cmdT x).length + sizes t := by simp [sizes]
    have key : ∀ (s : List ActT), sizeM s ≤ 4000 → sizes s = sizeM s := by
      intro s
      induction s with
      | nil => intro _; rfl
      | cons y s ih =>
        intro hs
        have f1 : sizeM (y :: s) = min (cmdT y).length 4001 + sizeM s := by simp [sizeM]
        have f2 : sizes (y :: s) = (cmdT y).length + sizes s := by simp [sizes]
        have := ih (by omega)
        omega
    have := key t (by omega)
    omega
theorem sizes_le (l : List ActT) (i : Nat) : sizes (l.take i) ≤ sizes l := by
  have := List.take_append_drop i l
  have e : sizes l = sizes (l.take i) + sizes (l.drop i) := by
    unfold sizes
    conv => lhs; rw [← this]
    rw [List.map_append, List.sum_append]
  omega
theorem light15 (v : Value) (l : List ActT) (w : World) (hv : Acts w [v] l) : CallP Try.prog 15 #[v] (fun r w' => ∃ b, r = .bool b ∧ (b = true → l.length ≤ 60 ∧ sizes l ≤ 4000) ∧ w' = w) w := by
  obtain ⟨A, c, rfl, hc, hm⟩ := hv.slice
  refine ⟨S15.calls _ _ _ ?_⟩
  unfold S15
  refine ln undAs ?_
  refine bi_gtr_c (fun h0 => ?_) (fun h0 => ?_)
  · (repeat with_reducible first|refine z_b ?_)
    exact ⟨false, rfl, (fun e => by cases e), rfl⟩
  (repeat with_reducible first|refine z_c ?_)
  refine LoopP.inv2 (fun nv iv w' => ∃ i : Nat, i ≤ l.length ∧ iv = .int .i64 i ∧ nv = .int .i64 (sizeM (l.take i) : Nat) ∧ sizeM (l.take i) ≤ 8001 ∧ w' = w) (fun _ iv _ => l.length - (intOf iv).toNat) ⟨0, by omega, rfl, rfl, by simp [sizeM], rfl⟩ ?_
  rintro _ _ _ ⟨i, hi, rfl, rfl, hn, rfl⟩ J hJ
  dsimp only [List.headD_cons, List.tail_cons]
  refine ln undAs ?_
  by_cases hlt : i < l.length
  · refine bi_lss_t (by omega) ?_
    (repeat with_reducible first|refine z_d ?_)
    by_cases h4 : sizeM (l.take i) ≤ 4000
    · refine bi_leq_t (by omega) ?_
      (repeat with_reducible first|refine z_b ?_|refine z_k ?_)
      obtain ⟨a, rfl, ha⟩ := act_at hv i hlt
      refine ixN undAs szAc i hlt ?_
      refine fdA ac1 (by decide) ?_
      refine ld oneT (ha.c1 _ (Below.refl _ _)) ?_
      refine lnT undT ?_
      refine mnI ?_
      have hst := sizeM_take l i hlt
      rw [show min ((cmdT l[i]).length : Int) 4001 = ((min (cmdT l[i]).length 4001 : Nat) : Int) by omega]
      (repeat with_reducible first|refine z_o (by omega) ?_)
      exact hJ _ _ _ ⟨i + 1, by omega, by simp, by rw [hst]; simp, by rw [hst]; omega, rfl⟩ (by simp [intOf]; omega)
    · refine bi_leq_f (by omega) ?_
      (repeat with_reducible first|refine z_c ?_|refine z_k ?_|refine z_x (by omega) ?_)
      exact ⟨false, rfl, (fun e => by cases e), rfl⟩
  · have : i = l.length := by omega
    subst this
    rw [List.take_length] at hn ⊢
    refine bi_lss_f (by omega) ?_
    (repeat with_reducible first|refine z_c ?_|refine z_e ?_|refine z_l ?_)
    refine bi_leq_c (fun h4 => ?_) (fun h4 => ?_)
    · exact ⟨true, rfl, fun _ => ⟨by omega, sizeM_le l (by omega)⟩, rfl⟩
    · exact ⟨false, rfl, (fun e => by cases e), rfl⟩
section
variable {P : Program}
theorem apOneU {K : Value → World → Prop} {w : World} {t ty e : TypeId} {cs : Array Bool} {z : Value} {bytes : Nat} (ht : P.underlying t = some (.slice e)) (hinfo : (P.info? e).map (fun i => (i.zero, i.size, i.bytes)) = some (some z, 1, bytes)) (hz : z.cells.size = 1)
    {v : Value} {xs : List Value} {n : Nat} (hown : w.ownsRow 0 e 1 v n xs) {u : Value} (h1 : u.oneCell' = true) (h63 : n + 1 ≤ 9223372036854775807) (hbytes : (n + 1) * bytes ≤ 140737488355328)
    (hb : (Instr.buildSlice t 1 #[(0, u)]).run P w = .ok (.slice (some ⟨w.heap.size, 0, none⟩) 1 1) (w.alloc (.cells #[u] e)))
    (k : ∀ v' w', w'.ownsRow 0 e 1 v' (n + 1) (xs ++ [u]) → (v'.ownBlock = v.ownBlock ∨ ∃ b, v'.ownBlock = some b ∧ w.heap.size ≤ b) → Turns (fun j => v.ownBlock = some j) w w' → K v' w') :
    LiftP P (Instr.buildSlice t 1 #[(0, u)]) (fun x w => NextP P (builtin .append #[t, t] ty cs #[v, x]) K w) w := by
  refine lift hb ?_
  have hB := Blk.new w e #[u]
  have ha := (Below.refl w.heap.size w).alloc (Nat.le_refl _) (.cells #[u] e)
  have hs := ha.size
  refine apGb ht hinfo hz (by decide) (ownsRow_turns hown (Turns.of_below (F := fun _ => False) ha) (fun _ _ h => h)) (a := ⟨w.heap.size, 0, none⟩) (m := 1) (c := 1) (news := [u]) (by simp) (fun j x hx => by
    rw [add0, Nat.zero_add, hB.cell j]
    simpa using hx) (by simpa using h1) h63 hbytes ?_
  intro v' w' ho hbl hT
  exact k v' w' ho (hbl.imp id fun h => ⟨_, h, hs⟩) ((Turns.of_below ha).trans (hT.mono fun j _ e => .inl e))
end
/-- A law's own row of texts. -/
def txO (v : Value) (l : List Txt) : Ob9 where
  hu := 8
  ok := fun c w => InC c 8 v ∧ w.ownsRow 0 9 1 v l.length (l.map tS)
  pos := by omega
  turns := fun h hT hG => ⟨h.1, ownsRow_turns h.2 hT fun k hk e => (hG k e).1 (h.1 k hk)⟩
  re := fun h hc => ⟨h.1.re (fun b hb => ownsRow_lt h.2 hb) hc, h.2⟩
theorem MemX.push {K : Value → World → Prop} {w0 w : World} {B : List Ob9} {v : Value} {l : List Txt} (h : MemX w0 w (txO v l :: B)) (hd : ∀ x ∈ B, x.hu ≠ 8) (hl : l.length ≤ 100000) (c : Txt) (k : ∀ v' w', MemX w0 w' (txO v' (l ++ [c]) :: B) → K v' w') :
    LiftP Try.prog (Instr.buildSlice 50 1 #[(0, tS c)]) (fun x w => NextP Try.prog (builtin .append #[50, 50] 50 #[false, false] #[v, x]) K w) w := by
  obtain ⟨d, ⟨h1, h2⟩, h3⟩ := h.one hd
  refine apOneU undSs infSt (by rfl) h2 rfl (by omega) (by omega) (by kernel_rfl) ?_
  intro v' w' ho hbl hT
  refine k v' w' (h3 (txO v' (l ++ [c])) w' ⟨col d w.heap.size 8, col_lt _ _ _, ⟨fun b hb => ?_, ?_⟩, hT.mono fun j _ e => h1 j e⟩)
  · rcases hbl with e | ⟨b', e, hb'⟩
    · rw [e] at hb
      rw [col_lt _ _ _ b (ownsRow_lt h2 hb)]
      exact h1 b hb
    · rw [e] at hb
      cases hb
      exact col_ge _ _ _ hb'
  · rw [List.length_append, List.map_append]
    exact ho
end Go.Proofs.Ytadbpelpbaikiaa.E
