import Derived.Test.YthicbfopjakiiaaMa
import Derived.Test.YthicbfopjakiiaaMi
import Derived.Test.YthicbfopjakiiaaMb
import Derived.Laws.CopyRow
namespace Go.Proofs.Ythicbfopjakiiaa.E
open Go Go.RowKit
set_option linter.unusedSimpArgs false
set_option linter.unusedVariables false

theorem number79 (n : Int) (w : World) : CallP Try.prog 79 #[.int .i64 n] (fun r w' => r = .bool (okN n) ∧ w = w') w := by
  refine ⟨S79.calls _ _ _ ?_⟩
  unfold S79
  refine bi_geq_c (fun h => ?_) (fun h => ?_)
  · (repeat with_reducible first|refine z_a ?_|refine z_b ?_|refine z_c ?_|refine z_d ?_|refine z_e ?_|refine z_f ?_|refine z_g ?_|refine z_h ?_|refine z_i ?_|refine z_j ?_|refine z_k ?_|refine z_l ?_|refine z_m (by omega) ?_|refine z_n (by omega) ?_|refine z_o (by omega) ?_|refine z_p (by omega) ?_|refine z_q (by omega) ?_|refine z_r (by omega) ?_|refine z_s (by omega) ?_|refine z_t (by omega) ?_|refine z_u (by omega) ?_|refine z_v (by omega) ?_|refine z_w (by omega) ?_|refine z_x (by omega) ?_|refine z_y (by omega) ?_|refine z_z (by omega) ?_|refine z_A ?_|refine z_B ?_|refine z_C ?_|refine z_D ?_|refine z_E ?_|refine z_F ?_|refine z_G ?_|refine z_H ?_|refine z_I ?_|refine z_J ?_|refine z_K (by omega) (by decide) ?_|refine z_L (by omega) (by decide) ?_|refine z_M (by omega) ?_|refine z_N (by omega) ?_|refine z_O (by omega) ?_|refine z_P ?_|refine z_Q ?_|refine z_R ?_|refine z_S ?_|refine z_T ?_|refine z_U (by decide) ?_|refine z_V (by decide) ?_)
    refine bi_leq ?_
    (repeat with_reducible first|refine z_a ?_|refine z_b ?_|refine z_c ?_|refine z_d ?_|refine z_e ?_|refine z_f ?_|refine z_g ?_|refine z_h ?_|refine z_i ?_|refine z_j ?_|refine z_k ?_|refine z_l ?_|refine z_m (by omega) ?_|refine z_n (by omega) ?_|refine z_o (by omega) ?_|refine z_p (by omega) ?_|refine z_q (by omega) ?_|refine z_r (by omega) ?_|refine z_s (by omega) ?_|refine z_t (by omega) ?_|refine z_u (by omega) ?_|refine z_v (by omega) ?_|refine z_w (by omega) ?_|refine z_x (by omega) ?_|refine z_y (by omega) ?_|refine z_z (by omega) ?_|refine z_A ?_|refine z_B ?_|refine z_C ?_|refine z_D ?_|refine z_E ?_|refine z_F ?_|refine z_G ?_|refine z_H ?_|refine z_I ?_|refine z_J ?_|refine z_K (by omega) (by decide) ?_|refine z_L (by omega) (by decide) ?_|refine z_M (by omega) ?_|refine z_N (by omega) ?_|refine z_O (by omega) ?_|refine z_P ?_|refine z_Q ?_|refine z_R ?_|refine z_S ?_|refine z_T ?_|refine z_U (by decide) ?_|refine z_V (by decide) ?_)
    refine ⟨?_, rfl⟩
    congr 1
    unfold okN
    simp only [decide_eq_decide]
    omega
  · (repeat with_reducible first|refine z_a ?_|refine z_b ?_|refine z_c ?_|refine z_d ?_|refine z_e ?_|refine z_f ?_|refine z_g ?_|refine z_h ?_|refine z_i ?_|refine z_j ?_|refine z_k ?_|refine z_l ?_|refine z_m (by omega) ?_|refine z_n (by omega) ?_|refine z_o (by omega) ?_|refine z_p (by omega) ?_|refine z_q (by omega) ?_|refine z_r (by omega) ?_|refine z_s (by omega) ?_|refine z_t (by omega) ?_|refine z_u (by omega) ?_|refine z_v (by omega) ?_|refine z_w (by omega) ?_|refine z_x (by omega) ?_|refine z_y (by omega) ?_|refine z_z (by omega) ?_|refine z_A ?_|refine z_B ?_|refine z_C ?_|refine z_D ?_|refine z_E ?_|refine z_F ?_|refine z_G ?_|refine z_H ?_|refine z_I ?_|refine z_J ?_|refine z_K (by omega) (by decide) ?_|refine z_L (by omega) (by decide) ?_|refine z_M (by omega) ?_|refine z_N (by omega) ?_|refine z_O (by omega) ?_|refine z_P ?_|refine z_Q ?_|refine z_R ?_|refine z_S ?_|refine z_T ?_|refine z_U (by decide) ?_|refine z_V (by decide) ?_)
    refine ⟨?_, rfl⟩
    congr 1
    unfold okN
    symm
    rw [decide_eq_false_iff_not]
    omega
theorem flag80 (b : Bool) (w : World) : CallP Try.prog 80 #[.bool b] (fun r w' => Own 5 w' r ((Pack.num (bitN b)).map u8) ∧ Fresh w.heap.size r ∧ Below w.heap.size w w') w := by
  refine ⟨S80.calls _ _ _ ?_⟩
  unfold S80
  have e : ∀ n, n ≤ 127 → (Pack.num n).map u8 = [u8 (UInt8.ofNat n)] := fun n hn => by rw [Pack.num_small n hn]; rfl
  cases b with
  | true =>
    (repeat with_reducible first|refine z_a ?_|refine z_b ?_|refine z_c ?_|refine z_d ?_|refine z_e ?_|refine z_f ?_|refine z_g ?_|refine z_h ?_|refine z_i ?_|refine z_j ?_|refine z_k ?_|refine z_l ?_|refine z_m (by omega) ?_|refine z_n (by omega) ?_|refine z_o (by omega) ?_|refine z_p (by omega) ?_|refine z_q (by omega) ?_|refine z_r (by omega) ?_|refine z_s (by omega) ?_|refine z_t (by omega) ?_|refine z_u (by omega) ?_|refine z_v (by omega) ?_|refine z_w (by omega) ?_|refine z_x (by omega) ?_|refine z_y (by omega) ?_|refine z_z (by omega) ?_|refine z_A ?_|refine z_B ?_|refine z_C ?_|refine z_D ?_|refine z_E ?_|refine z_F ?_|refine z_G ?_|refine z_H ?_|refine z_I ?_|refine z_J ?_|refine z_K (by omega) (by decide) ?_|refine z_L (by omega) (by decide) ?_|refine z_M (by omega) ?_|refine z_N (by omega) ?_|refine z_O (by omega) ?_|refine z_P ?_|refine z_Q ?_|refine z_R ?_|refine z_S ?_|refine z_T ?_|refine z_U (by decide) ?_|refine z_V (by decide) ?_)
    refine lift (v := .slice (some ⟨w.heap.size, 0, none⟩) 1 1) (w' := w.alloc (.cells #[.int .u8 1] 5)) (by kernel_rfl) ?_
    rw [show bitN true = 1 from rfl, e 1 (by omega)]
    exact ⟨Own.new w 5 [.int .u8 1] (by simp), fun k hk => by cases hk; exact Nat.le_refl _, (Below.refl _ _).alloc (Nat.le_refl _) _⟩
  | false =>
    (repeat with_reducible first|refine z_a ?_|refine z_b ?_|refine z_c ?_|refine z_d ?_|refine z_e ?_|refine z_f ?_|refine z_g ?_|refine z_h ?_|refine z_i ?_|refine z_j ?_|refine z_k ?_|refine z_l ?_|refine z_m (by omega) ?_|refine z_n (by omega) ?_|refine z_o (by omega) ?_|refine z_p (by omega) ?_|refine z_q (by omega) ?_|refine z_r (by omega) ?_|refine z_s (by omega) ?_|refine z_t (by omega) ?_|refine z_u (by omega) ?_|refine z_v (by omega) ?_|refine z_w (by omega) ?_|refine z_x (by omega) ?_|refine z_y (by omega) ?_|refine z_z (by omega) ?_|refine z_A ?_|refine z_B ?_|refine z_C ?_|refine z_D ?_|refine z_E ?_|refine z_F ?_|refine z_G ?_|refine z_H ?_|refine z_I ?_|refine z_J ?_|refine z_K (by omega) (by decide) ?_|refine z_L (by omega) (by decide) ?_|refine z_M (by omega) ?_|refine z_N (by omega) ?_|refine z_O (by omega) ?_|refine z_P ?_|refine z_Q ?_|refine z_R ?_|refine z_S ?_|refine z_T ?_|refine z_U (by decide) ?_|refine z_V (by decide) ?_)
    refine lift (v := .slice (some ⟨w.heap.size, 0, none⟩) 1 1) (w' := w.alloc (.cells #[.int .u8 0] 5)) (by kernel_rfl) ?_
    rw [show bitN false = 0 from rfl, e 0 (by omega)]
    exact ⟨Own.new w 5 [.int .u8 0] (by simp), fun k hk => by cases hk; exact Nat.le_refl _, (Below.refl _ _).alloc (Nat.le_refl _) _⟩
section
variable {K : Value → World → Prop} {w1 w : World} {o : Value} {bs : List UInt8}
theorem apRow {v : Value} {ys : List UInt8} (ho : Own 5 w o (bs.map u8)) (hf : Fresh w1.heap.size o) (hb : Below w1.heap.size w1 w) (hv : Own 5 w v (ys.map u8)) (hl : bs.length + ys.length ≤ 200000000)
    (k : ∀ o' w', Own 5 w' o' ((bs ++ ys).map u8) → Fresh w1.heap.size o' → Below w1.heap.size w1 w' → K o' w') : NextP Try.prog (builtin .append #[30, 30] 30 #[false, false] #[o, v]) K w := by
  refine apF w1.heap.size undB inf5 (by rfl) (by decide) ho hf hb.size hv.rd (u8_one _) (by simp only [List.length_map]; omega) ?_
  intro o' w' ho' hf' hb' _
  rw [← List.map_append] at ho'
  exact k o' w' ho' hf' (hb.trans hb')
theorem apNum {n : Nat} (ho : Own 5 w o (bs.map u8)) (hf : Fresh w1.heap.size o) (hb : Below w1.heap.size w1 w) (hn : n ≤ 1099511627776) (hl : bs.length ≤ 100000000)
    (k : ∀ o' w', Own 5 w' o' ((bs ++ Pack.num n).map u8) → Fresh w1.heap.size o' → Below w1.heap.size w1 w' → K o' w') : CallP Try.prog 57 #[.int .i64 n] (fun v w => NextP Try.prog (builtin .append #[30, 30] 30 #[false, false] #[o, v]) K w) w := by
  refine (refNum_spec n w hn).mono ?_
  rintro v w2 ⟨hv, _, hb2⟩
  have := num_le6 n hn
  exact apRow (ho.below hb2) hf (below_then hb hb2) hv (by omega) k
theorem apFlag {b : Bool} (ho : Own 5 w o (bs.map u8)) (hf : Fresh w1.heap.size o) (hb : Below w1.heap.size w1 w) (hl : bs.length ≤ 100000000)
    (k : ∀ o' w', Own 5 w' o' ((bs ++ Pack.num (bitN b)).map u8) → Fresh w1.heap.size o' → Below w1.heap.size w1 w' → K o' w') : CallP Try.prog 80 #[.bool b] (fun v w => NextP Try.prog (builtin .append #[30, 30] 30 #[false, false] #[o, v]) K w) w := by
  refine (flag80 b w).mono ?_
  rintro v w2 ⟨hv, _, hb2⟩
  have := num_le6 (bitN b) (by unfold bitN; split <;> omega)
  exact apRow (ho.below hb2) hf (below_then hb hb2) hv (by omega) k
theorem apText {s : ByteArray} (ho : Own 5 w o (bs.map u8)) (hf : Fresh w1.heap.size o) (hb : Below w1.heap.size w1 w) (hs : s.size ≤ 65536) (hl : bs.length ≤ 100000000)
    (k : ∀ o' w', Own 5 w' o' ((bs ++ Pack.text s).map u8) → Fresh w1.heap.size o' → Below w1.heap.size w1 w' → K o' w') : CallP Try.prog 73 #[.string s] (fun v w => NextP Try.prog (builtin .append #[30, 30] 30 #[false, false] #[o, v]) K w) w := by
  refine (refText_spec s (by omega) w).mono ?_
  rintro v w2 ⟨hv, hb2⟩
  have := text_le s hs
  exact apRow (ho.below hb2) hf (below_then hb hb2) hv (by omega) k
end
/-- The same, and another row beside it. -/
theorem apTextK {K : Value → World → Prop} {w1 w : World} {o : Value} {bs : List UInt8} {s : ByteArray} {e : TypeId} {u : Value} {zs : List Value} (ho : Own 5 w o (bs.map u8)) (hf : Fresh w1.heap.size o) (hb : Below w1.heap.size w1 w) (hs : s.size ≤ 65536) (hl : bs.length ≤ 100000000)
    (hu : Own e w u zs) (hne : u.ownBlock = none ∨ u.ownBlock ≠ o.ownBlock)
    (k : ∀ o' w', Own 5 w' o' ((bs ++ Pack.text s).map u8) → Fresh w1.heap.size o' → Below w1.heap.size w1 w' → Own e w' u zs → (u.ownBlock = none ∨ u.ownBlock ≠ o'.ownBlock) → K o' w') : CallP Try.prog 73 #[.string s] (fun v w => NextP Try.prog (builtin .append #[30, 30] 30 #[false, false] #[o, v]) K w) w := by
  refine (refText_spec s (by omega) w).mono ?_
  rintro v w2 ⟨hv, hb2⟩
  have := text_le s hs
  refine apF w1.heap.size undB inf5 (by rfl) (by decide) (ho.below hb2) hf (below_then hb hb2).size hv.rd (u8_one _) (by simp only [List.length_map]; omega) ?_
  intro o' w' ho' hf' hb' hk
  rw [← List.map_append] at ho'
  obtain ⟨h1, h2⟩ := hk e u zs (hu.below hb2) hne
  exact k o' w' ho' hf' ((below_then hb hb2).trans hb') h1 h2
theorem lnO {K : Value → World → Prop} {w : World} {t ty e e' : TypeId} {cs : Array Bool} {v : Value} {xs : List Value} (h : Try.prog.underlying t = some (.slice e')) (ho : Own e w v xs) (k : K (.int .i64 xs.length) w) : NextP Try.prog (builtin .len #[t] ty cs #[v]) K w := by
  obtain ⟨A, c, rfl⟩ := ho.slice
  exact ln h k
theorem text_ge (s : ByteArray) : s.size ≤ (Pack.text s).length := by
  have e : s.data.toList.length = s.size := by rw [Array.length_toList]; rfl
  rw [Pack.text, List.length_append]; omega
theorem addB_ge (n : Nat) (s : ByteArray) : addB n s ≤ n + s.size := by unfold addB; split <;> omega
theorem bulkP_ge : ∀ (l : List PairT) (n : Nat), bulkP n l ≤ n + (pairsB l).length
  | [], n => by simp [bulkP, pairsB]
  | p :: r, n => by
    have h1 := bulkP_ge r (addB (addB n p.1) p.2.1)
    have h2 := addB_ge (addB n p.1) p.2.1
    have h3 := addB_ge n p.1
    have h4 := text_ge p.1
    have h5 := text_ge p.2.1
    have e : (pairsB (p :: r)).length = (Pack.text p.1).length + (Pack.text p.2.1).length + (pairsB r).length := by
      simp only [pairsB, List.map_cons, List.flatten_cons, List.length_append]
    show bulkP (addB (addB n p.1) p.2.1) r ≤ _
    omega
theorem bulkI_ge : ∀ (l : List IntentT) (n : Nat), bulkI n l ≤ n + (intentsB l).length
  | [], n => by simp [bulkI, intentsB]
  | p :: r, n => by
    have h1 := bulkI_ge r (addB n p.1)
    have h3 := addB_ge n p.1
    have h4 := text_ge p.1
    have e : (intentsB (p :: r)).length = (Pack.text p.1).length + ((Pack.num p.2.1.toNat).length + (Pack.num (bitN p.2.2.1)).length) + (intentsB r).length := by
      simp only [intentsB, List.map_cons, List.flatten_cons, List.length_append]
    show bulkI (addB n p.1) r ≤ _
    omega
theorem packedB_len (L : Let) (ps : List PairT) (is : List IntentT) : (packedB L ps is).length = (Pack.num L.kind.toNat).length + (numsB L.nums).length + ((Pack.num L.code.toNat).length + (Pack.num (bitN L.yes)).length) + (textsB L.texts).length + (Pack.num ps.length).length + (pairsB ps).length + (Pack.num is.length).length + (intentsB is).length := by
  simp only [packedB, List.length_append]
theorem bulk_ge (L : Let) (ps : List PairT) (is : List IntentT) : bulkL L ps is ≤ (packedB L ps is).length := by
  have h1 := bulkI_ge is (bulkP (bulkT L) ps)
  have h2 := bulkP_ge ps (bulkT L)
  have h3 : bulkT L ≤ (textsB L.texts).length := by
    have a1 := addB_ge (addB (addB 0 L.s) L.t) L.body
    have a2 := addB_ge (addB 0 L.s) L.t
    have a3 := addB_ge 0 L.s
    have := text_ge L.s
    have := text_ge L.t
    have := text_ge L.body
    simp only [textsB, Let.texts, List.map_cons, List.map_nil, List.flatten_cons, List.flatten_nil, List.length_append, List.length_nil]
    show addB (addB (addB 0 L.s) L.t) L.body ≤ _
    omega
  have h4 := packedB_len L ps is
  show bulkI (bulkP (bulkT L) ps) is ≤ _
  omega
theorem packErr_form (L : Let) (ps : List PairT) (is : List IntentT) (hg : goodL L is = true) (hp : ps.length ≤ 256) (hi : is.length ≤ 256) : packErr L ps is = if 65536 < (packedB L ps is).length then 4 else 0 := by
  have hb := bulk_ge L ps is
  rw [packErr, if_neg (by rw [hg]; simp)]
  split
  · rw [if_pos (by omega)]
  · rfl
theorem flat_take_le {α : Type} (f : α → List UInt8) (l : List α) (k : Nat) : (((l.take k).map f).flatten).length ≤ ((l.map f).flatten).length := by
  have e : (l.map f).flatten = ((l.take k).map f).flatten ++ ((l.drop k).map f).flatten := by
    rw [← List.flatten_append, ← List.map_append, List.take_append_drop]
  rw [e, List.length_append]; omega
theorem flat_mem_le {α : Type} (f : α → List UInt8) {l : List α} {x : α} (hx : x ∈ l) : (f x).length ≤ ((l.map f).flatten).length := by
  induction l with
  | nil => cases hx
  | cons y r ih =>
    simp only [List.map_cons, List.flatten_cons, List.length_append]
    rcases List.mem_cons.1 hx with rfl | h
    · omega
    · have := ih h; omega
end Go.Proofs.Ythicbfopjakiiaa.E
namespace Go.Proofs.Ythicbfopjakiiaa.E
open Go Go.RowKit

section
variable {P : Program} {K : Value → World → Prop} {S : World → Prop} {w : World}
/-- x[i], any element size. -/
theorem ixN {t e : TypeId} (h : P.underlying t = some (.slice e)) {s : Nat} (hs : (P.info? e).map (·.size) = some s) {a : Addr} {n c : Nat} {kd : IntKind} (i : Nat) (h1 : i < n)
    (k : K (.pointer (some (a.add (i * s)))) w) : LiftP P (Instr.indexAt t (.slice (some a) n c) (.int kd (i : Int))) K w :=
  ix h hs (by omega) (by omega) (by rw [Int.toNat_natCast]; exact k)
theorem ixG {t e : TypeId} (h : P.underlying t = some (.slice e)) {s : Nat} (hs : (P.info? e).map (·.size) = some s) {g n c : Nat} {kd : IntKind} (i : Nat) (h1 : i < n)
    (k : K (.pointer (some ⟨g, i * s, none⟩)) w) : LiftP P (Instr.indexAt t (.slice (some ⟨g, 0, none⟩) n c) (.int kd (i : Int))) K w :=
  ixN h hs i h1 (by rw [add0, Nat.zero_add]; exact k)
theorem yixG {t e : TypeId} (h : P.underlying t = some (.slice e)) {s : Nat} (hs : (P.info? e).map (·.size) = some s) {g n c : Nat} {kd : IntKind} (i : Nat) (h1 : i < n)
    (k : K (.pointer (some ⟨g, i * s, none⟩)) w) : YieldP P S (Instr.indexAt t (.slice (some ⟨g, 0, none⟩) n c) (.int kd (i : Int))) K w :=
  yixA h hs i h1 (by rw [add0, Nat.zero_add]; exact k)
/-- a field behind any place of a block -/
theorem fdG {s : TypeId} {i o n : Nat} (h : fofs P s i = some (o, n)) (hn : n ≠ 0) {g q : Nat} (k : K (.pointer (some ⟨g, q + o, none⟩)) w) : LiftP P (Instr.fieldAt s (.pointer (some ⟨g, q, none⟩)) i) K w :=
  fdA h hn (by rw [add0]; exact k)
theorem yfdG {s : TypeId} {i o n : Nat} (h : fofs P s i = some (o, n)) (hn : n ≠ 0) {g q : Nat} (k : K (.pointer (some ⟨g, q + o, none⟩)) w) : YieldP P S (Instr.fieldAt s (.pointer (some ⟨g, q, none⟩)) i) K w :=
  yfdA h hn (by rw [add0]; exact k)
end
section
variable {P : Program} {K : Value → World → Prop} {S : World → Prop} {w : World}
/-- append(v, x...), elements of any size: the row's block is v's, or new. -/
theorem apGb {t ty e : TypeId} {cs : Array Bool} {z : Value} {size bytes : Nat} (ht : P.underlying t = some (.slice e)) (hinfo : (P.info? e).map (fun i => (i.zero, i.size, i.bytes)) = some (some z, size, bytes)) (hz : z.cells.size = size) (hsz : 0 < size)
    {v : Value} {xs : List Value} {n : Nat} (hown : w.ownsRow 0 e size v n xs) {a : Addr} {m c : Nat} {news : List Value} (hl : news.length = m * size) (hnews : ∀ j u, news[j]? = some u → w.cell? (a.add j) = some u) (h1 : ∀ u ∈ news, u.oneCell' = true)
    (h63 : n + m ≤ 9223372036854775807) (hbytes : (n + m) * bytes ≤ 140737488355328)
    (k : ∀ v' w', w'.ownsRow 0 e size v' (n + m) (xs ++ news) → (v'.ownBlock = v.ownBlock ∨ v'.ownBlock = some w.heap.size) → Turns (fun j => v.ownBlock = some j) w w' → K v' w') : NextP P (builtin .append #[t, t] ty cs #[v, .slice (some a) m c]) K w := by
  obtain ⟨i, hi, hzz⟩ := Option.map_eq_some_iff.1 hinfo
  simp only [Prod.mk.injEq] at hzz
  obtain ⟨hz0, hz1, hz2⟩ := hzz
  obtain ⟨v', w', hr, h2, h3, _, h5⟩ := run_append_own_at (P := P) w 0 t ty e i z size bytes ht hi hz0 hz1 hz2 hz hsz v n xs hown a m c news hl hnews h1 (by simp only [maxLen]; omega) hbytes (Nat.zero_le _)
  refine nextV (v := v') (w' := w') ?_ (k v' w' h2 h5 ⟨h3.os, h3.tape, h3.output, h3.size, fun j hj hF => h3.block j hj (fun e => hF e.symm)⟩)
  simp only [builtin]
  simp [hr]
end
theorem ownsRow_turns {s : Nat} {e : TypeId} {w w' : World} {v : Value} {n : Nat} {xs : List Value} {F : Nat → Prop} (h : w.ownsRow 0 e s v n xs) (hT : Turns F w w') (hF : ∀ k, v.ownBlock = some k → ¬ F k) : w'.ownsRow 0 e s v n xs := by
  refine ⟨h.1, ?_⟩
  rcases h.2 with h | ⟨g, c, cur, rfl, h0, hb, h1⟩
  · exact .inl h
  · have hlt : g < w.heap.size := (Array.getElem?_eq_some_iff.1 hb).1
    exact .inr ⟨g, c, cur, rfl, h0, (hT.block g hlt (hF g rfl)).trans hb, h1⟩
theorem ownsRow_lt {s : Nat} {e : TypeId} {w : World} {v : Value} {n : Nat} {xs : List Value} (h : w.ownsRow 0 e s v n xs) {k : Nat} (hk : v.ownBlock = some k) : k < w.heap.size := by
  rcases h.2 with ⟨rfl, _⟩ | ⟨g, c, cur, rfl, h0, hb, h1⟩
  · cases hk
  · have : g = k := by simpa [Value.ownBlock] using hk
    subst this
    exact (Array.getElem?_eq_some_iff.1 hb).1
section
variable {P : Program} {K : Value → World → Prop} {w : World}
/-- append(v, x...), x any row of structs: of its elements alone something is asked. -/
theorem apRm {t ty e : TypeId} {cs : Array Bool} {z : Value} {size bytes : Nat} (B : Nat) (ht : P.underlying t = some (.slice e)) (hinfo : (P.info? e).map (fun i => (i.zero, i.size, i.bytes)) = some (some z, size, bytes)) (hz : z.cells.size = size) (hsz : 0 < size)
    {v : Value} {xs : List Value} {n : Nat} (hown : w.ownsRow 0 e size v n xs) (hf : Fresh B v) (hB : B ≤ w.heap.size) {α : Type} {f : α → List Value} (hfl : ∀ x, (f x).length = size)
    {x : Value} {l : List α} (hf1 : ∀ x ∈ l, ∀ u ∈ f x, u.oneCell' = true) (hx : rRow size (fun _ us x => us = f x) w [x] l) (h63 : n + l.length ≤ 9223372036854775807) (hbytes : (n + l.length) * bytes ≤ 140737488355328)
    (k : ∀ v' w', w'.ownsRow 0 e size v' (n + l.length) (xs ++ l.flatMap f) → Fresh B v' → Below B w w' → K v' w') : NextP P (builtin .append #[t, t] ty cs #[v, x]) K w := by
  obtain ⟨A, c, he, h1, h2, h3⟩ := hx
  simp only [List.cons.injEq, and_true] at he
  subst he
  cases A with
  | none =>
    have h0 : l = [] := by
      cases l with
      | nil => rfl
      | cons p r => obtain ⟨a, us, h, _⟩ := h3 0 p rfl; cases h
    subst h0
    obtain ⟨i, hi, hzz⟩ := Option.map_eq_some_iff.1 hinfo
    refine nextV (v := v) (w' := w) ?_ (k v w (by simpa using hown) hf (Below.refl B w))
    have hrun : (Builtin.append_ #[t, t] ty #[v, .slice none 0 c]).run P w = .ok v w := by
      rcases hown.2 with ⟨rfl, _⟩ | ⟨g, cap, cur, rfl, _, _, hnc, _⟩
      · simp [Builtin.append_, run_underlying ht, sizeOf, typeInfo, hi, Builtin.lenOf, Builtin.firstCells]
      · simp [Builtin.append_, run_underlying ht, sizeOf, typeInfo, hi, Builtin.lenOf, Builtin.firstCells, hnc, storeCells]
    simp only [builtin, List.length_nil] at hrun ⊢
    simp [hrun]
  | some a =>
    refine apG B ht hinfo hz hsz hown hf hB (news := l.flatMap f) (flatMap_len f size hfl l) (fun j u hu => ?_) (fun u hu => ?_) h63 hbytes (fun v' w' q1 q2 q3 _ => k v' w' q1 q2 q3)
    · have hj := (List.getElem?_eq_some_iff.1 hu).1
      rw [flatMap_len f size hfl] at hj
      have hi : j / size < l.length := Nat.div_lt_of_lt_mul (by rw [Nat.mul_comm]; exact hj)
      have hm : j % size < size := Nat.mod_lt _ hsz
      obtain ⟨a', us, ha, hus, hcell, hrd⟩ := h3 (j / size) l[j / size] (List.getElem?_eq_getElem hi)
      cases ha
      have hdm : j / size * size + j % size = j := Nat.div_add_mod' j size
      have := flatMap_at f size hfl l (j / size) (j % size) l[j / size] (List.getElem?_eq_getElem hi) hm
      rw [hdm, hu] at this
      have hx : us = f l[j / size] := hrd
      subst hx
      have := hcell (j % size) u this.symm
      rwa [hdm] at this
    · obtain ⟨x, hxl, hx⟩ := List.mem_flatMap.1 hu
      exact hf1 x hxl u hx
end
theorem Turns.cut {F : Nat → Prop} {w w' : World} (h : Turns F w w') : Turns (fun k => F k ∧ k < w.heap.size) w w' := ⟨h.os, h.tape, h.output, h.size, fun k hk hF => h.block k hk fun e => hF ⟨e, hk⟩⟩
end Go.Proofs.Ythicbfopjakiiaa.E
namespace Go.Proofs.Ythicbfopjakiiaa.E
open Go Go.RowKit

end Go.Proofs.Ythicbfopjakiiaa.E
namespace Go.Proofs.Ythicbfopjakiiaa.E
open Go Go.RowKit

theorem rowAt {s : Nat} {e : TypeId} {w : World} {v : Value} {α : Type} {f : α → List Value} {l : List α} (hf : ∀ x, (f x).length = s) (h : OwnR s e w v l.length (l.flatMap f)) (i : Nat) (hi : i < l.length) (hs : 0 < s) :
    ∃ g c, v = .slice (some ⟨g, 0, none⟩) l.length c ∧ ∀ j u, (f l[i])[j]? = some u → w.cell? ⟨g, i * s + j, none⟩ = some u := by
  obtain ⟨A, c, rfl, _, _⟩ := h.slice
  have hle : i * s + s ≤ l.length * s := by
    have := Nat.mul_le_mul_right s (show i + 1 ≤ l.length from hi)
    rw [Nat.succ_mul] at this; omega
  obtain ⟨g, _, rfl, _, _, _⟩ := h.at (i * s) (by omega)
  refine ⟨g, c, rfl, fun j u hu => ?_⟩
  have hj : j < s := by have := (List.getElem?_eq_some_iff.1 hu).1; rw [hf] at this; exact this
  obtain ⟨g', u', he, hu', hc, _⟩ := h.at (i * s + j) (by omega)
  cases he
  rw [hc]
  have := flatMap_at f s hf l i j l[i] (List.getElem?_eq_getElem hi) hj
  rw [hu', hu] at this
  exact this
theorem OwnR.cutFrom {s : Nat} {e : TypeId} {w : World} {A : Option Addr} {c : Nat} {α : Type} {f : α → List Value} {l : List α} (hf : ∀ x, (f x).length = s) (hs : 0 < s) (h : OwnR s e w (.slice A l.length c) l.length (l.flatMap f)) (j : Nat) (hj : j ≤ l.length) :
    rRow s (fun _ us x => us = f x) w [sliced A j l.length c s] (l.drop j) := by
  obtain ⟨A', c', he, hc, hm⟩ := h.slice
  cases he
  refine ⟨_, _, by rw [List.length_drop]; rfl, by rw [List.length_drop]; omega, by omega, fun i x hx => ?_⟩
  have hi : j + i < l.length := by
    have := (List.getElem?_eq_some_iff.1 hx).1
    rw [List.length_drop] at this; omega
  obtain ⟨g, c2, he, hcell⟩ := rowAt hf h (j + i) hi hs
  cases he
  rw [List.getElem?_drop, List.getElem?_eq_getElem hi] at hx
  cases hx
  refine ⟨⟨g, j * s, none⟩, f l[j + i], ?_, hf _, fun k u hu => ?_, rfl⟩
  · rw [if_neg (by omega), Option.map_some, add0, Nat.zero_add]
  · rw [add0, ← Nat.add_assoc, ← Nat.add_mul]
    exact hcell k u hu
theorem Fresh.one {B : Nat} {w : World} {v v' : Value} (h : Fresh B v) (hB : B ≤ w.heap.size) (hbl : v'.ownBlock = v.ownBlock ∨ ∃ b, v'.ownBlock = some b ∧ w.heap.size ≤ b) : Fresh B v' := fun k hk => by
  rcases hbl with e | ⟨b, e, hb⟩
  · exact h k (by rw [← e]; exact hk)
  · rw [e] at hk; cases hk; omega
section
variable {P : Program} {K : Value → World → Prop} {S : World → Prop} {w : World} {t : TypeId}
theorem bxB {cs : Array Value} (k : ∀ g w', g = w.heap.size → Blk w' g t cs → Below w.heap.size w w' → K (.pointer (some ⟨g, 0, none⟩)) w') : LiftP P (Instr.box t (.agg cs)) K w :=
  bx (k _ _ rfl (Blk.new w t cs) ((Below.refl _ _).alloc (Nat.le_refl _) _))
theorem alB {cs : Array Value} (hz : (P.info? t).bind (·.zero) = some (.agg cs)) (k : ∀ g w', g = w.heap.size → Blk w' g t cs → Below w.heap.size w w' → K (.pointer (some ⟨g, 0, none⟩)) w') : LiftP P (Instr.alloc t true (.tuple #[])) K w :=
  al hz (k _ _ rfl (Blk.new w t cs) ((Below.refl _ _).alloc (Nat.le_refl _) _))
theorem stB {g : Nat} {old cells : Array Value} (hb : Blk w g t old) (hi : (P.info? t).map (·.size) = some cells.size) (ho : old.size = cells.size) (h1 : cells.all (·.oneCell') = true)
    {K : Value → World → Prop} (k : ∀ w', Blk w' g t cells → Turns (fun j => j = g) w w' → K undef w') : LiftU P (Instr.storeAt t (.pointer (some ⟨g, 0, none⟩)) (.agg cells)) K w :=
  stA hb hi ho h1 (k _ (hb.row cells) (Turns.setRow (F := fun j => j = g) (Turns.refl _ w) (.inl rfl) _))
theorem Turns.own {B g : Nat} {w w' : World} (h : Turns (fun j => j = g) w w') (hg : B ≤ g) (hB : B ≤ w.heap.size) : Below B w w' := h.below hB fun k hk e => by omega
theorem below_own {W w w' : World} {g : Nat} (hb : Below W.heap.size W w) (h : Turns (fun j => j = g) w w') (hg : W.heap.size ≤ g) : Below W.heap.size W w' := hb.trans (h.own hg hb.size)
end
end Go.Proofs.Ythicbfopjakiiaa.E
namespace Go.Proofs.Ythicbfopjakiiaa.E
open Go Go.RowKit

theorem add_add (a : Addr) (m n : Nat) : (a.add m).add n = a.add (m + n) := by
  unfold Addr.add
  by_cases hm : m = 0 <;> by_cases hn : n = 0 <;> simp [hm, hn, Nat.add_assoc]
/-- A row read from its j-th element on. -/
theorem rRow.cutFrom {α : Type} {s : Nat} {r : Rdr α} {w : World} {A : Option Addr} {c : Nat} {l : List α} (h : rRow s r w [.slice A l.length c] l) (j : Nat) (hj : j ≤ l.length) : rRow s r w [sliced A j l.length c s] (l.drop j) := by
  obtain ⟨A', c', he, hc, hm, h3⟩ := h
  simp only [List.cons.injEq, Value.slice.injEq, and_true, true_and] at he
  obtain ⟨rfl, rfl⟩ := he
  refine ⟨_, _, by rw [List.length_drop]; rfl, by rw [List.length_drop]; omega, by omega, fun i x hx => ?_⟩
  have hi : j + i < l.length := by
    have := (List.getElem?_eq_some_iff.1 hx).1
    rw [List.length_drop] at this; omega
  rw [List.getElem?_drop] at hx
  obtain ⟨a, us, rfl, hus, hcell, hr⟩ := h3 (j + i) x hx
  refine ⟨a.add (j * s), us, by rw [if_neg (by omega)]; rfl, hus, fun k u hu => ?_, hr⟩
  rw [add_add, ← Nat.add_assoc, ← Nat.add_mul]
  exact hcell k u hu
end Go.Proofs.Ythicbfopjakiiaa.E
namespace Go.Proofs.Ythicbfopjakiiaa.E
open Go Go.RowKit

theorem delK_len_le {α : Type} (k : Int) : ∀ l : List (Int × α), (delK k l).length ≤ l.length
  | [] => by simp [delK]
  | (a, u) :: r => by
    have := delK_len_le k r
    rw [delK]
    split
    · simp
    · simp; exact this
end Go.Proofs.Ythicbfopjakiiaa.E
