import Derived.Test.YtmnaggdhkggjhaaGreatDoorMh
import Derived.IntWalk
import Derived.Test.YtmnaggdhkggjhaaGreatDoorM5
namespace Go.Proofs.YtmnaggdhkggjhaaGreatDoor.E.Pl
open Go Go.RowKit
set_option linter.unusedSimpArgs false
set_option linter.unusedVariables false

theorem ycutTF {P : Program} {S : World → Prop} {K : Value → World → Prop} {w : World} {t : TypeId} (h : P.underlying t = some .string) {a : List UInt8} {k1 : IntKind} (i : Nat) (hi : i ≤ a.length) (k : K (tS (a.drop i)) w) : YieldP P S (Instr.sliceAt t (tS a) (some (.int k1 (i : Int))) none none) K w := by
  refine yld (v := tS (a.drop i)) (fun w' _ => ?_) k
  rw [run_sliceAt_string w' t _ _ _ _ h]
  unfold tS
  rw [run_slice_string_from_if w' t ⟨a.toArray⟩ k1 (i : Int) h, if_pos ⟨by omega, by rw [tsz]; omega⟩]
  rw [Int.toNat_natCast, Go.ByteArray.extract_mk, tsz, List.take_of_length_le (by rw [List.length_drop]; omega)]
/-- A row of values of the call's own, with room. -/
structure OwnVs (B : Nat) (w : World) (v : Value) (l : List ValT) : Prop where
  own : w.ownsRow 0 91 3 v l.length (l.flatMap valF)
  fresh : Fresh B v
set_option maxHeartbeats 1000000 in
theorem Cut72 (s : List UInt8) (w : World) (hs : s.length ≤ 200000) : CallP Tryz.prog 72 #[tS s] (fun r w' => ∃ v, r = .tuple #[v, tS (cutF 4 s []).2.2, .int .i64 (cutF 4 s []).1] ∧ OwnVs w.heap.size w' v (cutF 4 s []).2.1 ∧ Below w.heap.size w w') w := by
  refine ⟨S72.calls _ _ _ ?_⟩
  unfold S72
  generalize hres : cutF 4 s [] = res
  refine LoopP.inv2 (fun sv lv w' => ∃ (k : Nat) (u : List UInt8) (l : List ValT), sv = tS u ∧ l.length + k = 4 ∧ u.length ≤ s.length ∧ cutF k u l = res ∧ OwnVs w.heap.size w' lv l ∧ Below w.heap.size w w') (fun sv _ _ => (match sv with | .string b => b.size | _ => 0)) ⟨4, s, [], rfl, rfl, Nat.le_refl _, hres, ⟨⟨rfl, .inl ⟨rfl, rfl⟩⟩, Fresh.nil _⟩, Below.refl _ _⟩ ?_
  rintro _ lv w1 ⟨k, u, l, rfl, hlk, hul, hcut, hown, hb1⟩ J hJ
  dsimp only [List.headD_cons, List.tail_cons]
  have hs1 := hb1.size
  obtain ⟨A, c, rfl, _⟩ := (OwnR.of_own hown.own).slice
  cases u with
  | nil =>
    rw [cutF] at hcut
    refine tl_neq_f (by simp) ?_
    (repeat with_reducible first|refine z_c ?_|refine z_e ?_|refine z_l ?_)
    subst hcut
    exact ⟨_, rfl, hown, hb1⟩
  | cons b r =>
  refine tl_neq_t (t := b :: r) (u := []) (by simp) ?_
  (repeat with_reducible first|refine z_d ?_)
  refine ixT und9 (i := 0) (by simp) ?_
  have hb0 : (b :: r)[0] = b := rfl
  rw [hb0]
  refine gdY ?_
  refine bi_neq_c (fun e0 => ?_) (fun e0 => ?_)
  rotate_left
  · have hb : b = 0 := u8_lit (n := 0) (by omega) (by omega)
    have : cutF k (b :: r) l = (0, l, b :: r) := by
      cases k with
      | zero => rw [cutF, if_pos hb]
      | succ k => rw [cutF, if_pos hb]
    rw [this] at hcut
    subst hcut
    (repeat with_reducible first|refine z_c ?_|refine z_k ?_)
    exact ⟨_, rfl, hown, hb1⟩
  have hb : b ≠ 0 := u8_ne (n := 0) e0 (by omega)
  (repeat with_reducible first|refine z_b ?_|refine z_k ?_)
  refine ln undVs ?_
  refine bi_eql_c (fun e4 => ?_) (fun e4 => ?_)
  · have hk : k = 0 := by omega
    subst hk
    rw [cutF, if_neg hb] at hcut
    subst hcut
    (repeat with_reducible first|refine z_b ?_)
    exact ⟨_, rfl, ⟨⟨rfl, .inl ⟨rfl, rfl⟩⟩, Fresh.nil _⟩, hb1⟩
  obtain ⟨j, rfl⟩ : ∃ j, k = j + 1 := ⟨k - 1, by omega⟩
  rw [cutF, if_neg hb] at hcut
  (repeat with_reducible first|refine z_c ?_)
  refine (One87 (b :: r) w1 (by omega) (by simp)).mono ?_
  rintro _ w2 ⟨rfl, hb2⟩
  (repeat with_reducible first|refine z_A ?_|refine z_B ?_|refine z_C ?_)
  refine alB zVal ?_
  intro g w3 hg hB3 hb3
  refine stB (cells := (valF (oneP (b :: r)).2.1).toArray) hB3 szVal rfl (valF_all _) ?_
  intro w4 hB4 hT4
  have h34 : Below w2.heap.size w2 w4 := below_own hb3 hT4 (by omega)
  have h14 := below_then hb2 h34
  have h04 := below_then hb1 h14
  refine bi_neq_c (fun e1 => ?_) (fun e1 => ?_)
  · rw [if_pos (by omega)] at hcut
    subst hcut
    (repeat with_reducible first|refine z_b ?_)
    exact ⟨_, rfl, ⟨⟨rfl, .inl ⟨rfl, rfl⟩⟩, Fresh.nil _⟩, h04⟩
  have ho : (oneP (b :: r)).1 = 0 := by omega
  rw [if_neg (by rw [ho]; simp)] at hcut
  obtain ⟨g1, g2, g3, g4⟩ := oneP_good ho
  (repeat with_reducible first|refine z_c ?_)
  have hdr : Below w4.heap.size w4 w4.drew := (Below.refl _ _).drew
  have q0 : ∀ w', Below w4.heap.size w4 w' → Blk w' g 91 (valF (oneP (b :: r)).2.1).toArray := fun w' hb => hB4.below' hb
  have hown4 : w4.ownsRow 0 91 3 (.slice A l.length c) l.length (l.flatMap valF) := ownsRow_turns hown.own (Turns.of_below (F := fun _ => False) h14) fun _ _ h => h
  refine draw (fun x => Blk x g 91 (valF (oneP (b :: r)).2.1).toArray) (q0 _ hdr) ?_
  refine yldA aggVal (fun _ h => h) (by rw [szVal]; rfl) ?_
  refine ycutTF und9 (a := b :: r) (oneP (b :: r)).2.2 g2 ?_
  refine apOneT (size := 3) (bytes := 32) undVs infVal (by rfl) (by decide) (ownsRow_turns hown4 (Turns.of_below (F := fun _ => False) hdr) fun _ _ h => h) (us := valF (oneP (b :: r)).2.1) rfl (valF_one _) (by omega) (by omega) (by kernel_rfl) (fun w' hb => q0 _ (below_then hdr hb)) ?_
  intro v5 w5 ho5 hbl5 hT5
  have hF4 : ∀ j, (Value.slice A l.length c).ownBlock = some j → w.heap.size ≤ j := hown.fresh
  have hb5 : Below w.heap.size w w5 := (h04.trans (hdr.mono (by have := h04.size; omega))).trans (hT5.below (by have := h04.size; show _ ≤ w4.heap.size; omega) fun j hj e => by have := hF4 j e; omega)
  have hgn : (Value.slice A l.length c).ownBlock ≠ some g := by
    rw [hg]
    intro e
    have := ownsRow_lt hown.own e
    have := hb2.size
    omega
  refine ⟨_, (q0 _ hdr).turns hT5 hgn, fun x hx => hx, ?_⟩
  refine hJ _ _ _ ⟨j, _, _, rfl, ?_, ?_, hcut, ⟨?_, ?_⟩, hb5⟩ ?_
  · simp; omega
  · rw [List.length_drop]; omega
  · rw [List.length_append, List.flatMap_append]
    simpa using ho5
  · intro q hq
    rcases hbl5 with e | ⟨q', e, hq'⟩
    · rw [e] at hq; exact hF4 q hq
    · rw [e] at hq; cases hq
      have := h04.size
      have : w4.heap.size ≤ q := hq'
      omega
  · show (⟨((b :: r).drop _).toArray⟩ : ByteArray).size < (⟨(b :: r).toArray⟩ : ByteArray).size
    rw [tsz, tsz, List.length_drop]
    omega
theorem ownV0 (B : Nat) (w : World) : OwnVs B w (.slice none 0 0) [] := ⟨⟨rfl, .inl ⟨rfl, rfl⟩⟩, Fresh.nil _⟩
theorem Vals66 (s : List UInt8) (w : World) (hs : s.length ≤ 200000) : CallP Tryz.prog 66 #[tS s] (fun r w' => ∃ v, r = .tuple #[v, .int .i64 (valsP s).1] ∧ OwnVs w.heap.size w' v (valsP s).2 ∧ Below w.heap.size w w') w := by
  refine ⟨S66.calls _ _ _ ?_⟩
  unfold S66
  refine (Cut72 s w hs).mono ?_
  rintro _ w1 ⟨v, rfl, hown, hb1⟩
  have hv : valsP s = if (cutF 4 s []).1 ≠ 0 then ((cutF 4 s []).1, []) else if (cutF 4 s []).2.2 ≠ [] then (3, []) else (0, (cutF 4 s []).2.1) := rfl
  rw [hv]
  generalize cutF 4 s [] = c at *
  (repeat with_reducible first|refine z_A ?_|refine z_B ?_|refine z_C ?_)
  refine JoinP.cut (fun vs w' => vs = [.int .i64 (if c.1 ≠ 0 then c.1 else if c.2.2 ≠ [] then 3 else 0 : Nat)] ∧ w' = w1) (fun J hJ => ?_) ?_
  · refine bi_eql_c (fun e => ?_) (fun e => ?_)
    · have h0 : c.1 = 0 := by omega
      (repeat with_reducible first|refine z_d ?_)
      by_cases h2 : c.2.2 = []
      · refine tl_neq_f (by simpa using h2) ?_
        (repeat with_reducible first|refine z_c ?_|refine z_k ?_)
        exact hJ _ _ ⟨by rw [if_neg (by omega), if_neg (by simpa using h2), h0], rfl⟩
      · refine tl_neq_t h2 ?_
        (repeat with_reducible first|refine z_b ?_|refine z_k ?_)
        exact hJ _ _ ⟨by rw [if_neg (by omega), if_pos h2]; rfl, rfl⟩
    · have h0 : c.1 ≠ 0 := by omega
      (repeat with_reducible first|refine z_c ?_|refine z_e ?_|refine z_l ?_)
      exact hJ _ _ ⟨by rw [if_pos h0], rfl⟩
  rintro _ _ ⟨rfl, rfl⟩
  dsimp only [List.headD_cons, List.tail_cons]
  by_cases h0 : c.1 ≠ 0
  · rw [if_pos h0, if_pos h0]
    (repeat with_reducible first|refine z_b ?_|refine z_s (by omega) ?_)
    exact ⟨_, rfl, ownV0 _ _, hb1⟩
  · rw [if_neg h0, if_neg h0]
    by_cases h2 : c.2.2 ≠ []
    · rw [if_pos h2, if_pos h2]
      (repeat with_reducible first|refine z_b ?_|refine z_s (by omega) ?_)
      exact ⟨_, rfl, ownV0 _ _, hb1⟩
    · rw [if_neg h2, if_neg h2]
      (repeat with_reducible first|refine z_c ?_|refine z_t (by omega) ?_)
      exact ⟨v, rfl, hown, hb1⟩
theorem Unpack53 (s : List UInt8) (w : World) (hs : s.length ≤ 200000) : CallP Tryz.prog 53 #[tS s] (fun r w' => ∃ v, r = .tuple #[v, .int .i64 (unpackP s).1] ∧ OwnVs w.heap.size w' v (unpackP s).2 ∧ Below w.heap.size w w') w := by
  refine ⟨S53.calls _ _ _ ?_⟩
  unfold S53
  refine (Vals66 s w hs).mono ?_
  rintro _ w1 ⟨v, rfl, hown, hb1⟩
  have hv : unpackP s = if (valsP s).1 ≠ 0 then ((valsP s).1, []) else if (valsP s).2 = [] then (3, []) else (0, (valsP s).2) := rfl
  rw [hv]
  generalize valsP s = c at *
  obtain ⟨A, cc, rfl, _⟩ := (OwnR.of_own hown.own).slice
  (repeat with_reducible first|refine z_A ?_|refine z_B ?_)
  refine ln undVs ?_
  have fin : ∀ (b : Bool), (b = true ↔ c.2 = []) → CallP Tryz.prog 40 #[.bool b, .int .i64 3] (fun v15 w2 => v15 = .int .i64 (if b then 3 else 0) ∧ w2 = w1) w1 := fun b _ => when_spec b 3 w1
  have hdec : ∀ b : Bool, b = decide ((c.2.length : Int) = 0) → (b = true ↔ c.2 = []) := fun b hb => by
    rw [hb, decide_eq_true_iff]
    constructor
    · intro h; exact List.eq_nil_of_length_eq_zero (by omega)
    · intro h; rw [h]; rfl
  refine bi_eql ?_
  have hb := hdec _ rfl
  generalize decide ((c.2.length : Int) = 0) = b at *
  refine (fin b hb).mono ?_
  rintro _ _ ⟨rfl, rfl⟩
  refine bsO (xs := [.int .i64 c.1, .int .i64 (if b then 3 else 0)]) (bE2 _ _ _) rfl (by decide) ?_
  intro v2 w2 hv2 hf2 hb2
  have hown2 : OwnVs w.heap.size w2 (.slice A c.2.length cc) c.2 := ⟨ownsRow_turns hown.own (Turns.of_below (F := fun _ => False) hb2) fun _ _ h => h, hown.fresh⟩
  have hb02 := below_then hb1 hb2
  refine (first_spec v2 [(c.1 : Int), if b then 3 else 0] w2 hv2.rd).mono ?_
  rintro _ _ ⟨rfl, rfl⟩
  by_cases h0 : c.1 ≠ 0
  · rw [if_pos h0]
    have ef : firstE [(c.1 : Int), if b then 3 else 0] = c.1 := by
      unfold firstE
      rw [if_pos (by omega)]
    rw [ef]
    refine bi_neq_t (by omega) ?_
    (repeat with_reducible first|refine z_b ?_)
    exact ⟨_, rfl, ownV0 _ _, hb02⟩
  · rw [if_neg h0]
    have h0' : c.1 = 0 := by omega
    by_cases h2 : c.2 = []
    · rw [if_pos h2]
      have hbt : b = true := hb.2 h2
      subst hbt
      have ef : firstE [(c.1 : Int), if true then 3 else 0] = 3 := by rw [h0']; rfl
      rw [ef]
      refine bi_neq_t (by omega) ?_
      (repeat with_reducible first|refine z_b ?_)
      exact ⟨_, rfl, ownV0 _ _, hb02⟩
    · rw [if_neg h2]
      have hbt : b = false := by
        cases b with
        | false => rfl
        | true => exact absurd (hb.1 rfl) h2
      subst hbt
      have ef : firstE [(c.1 : Int), if false then 3 else 0] = 0 := by rw [h0']; rfl
      rw [ef]
      refine bi_neq_f (by omega) ?_
      (repeat with_reducible first|refine z_c ?_)
      exact ⟨_, rfl, hown2, hb02⟩
/-- A record as a text. -/
def packT (l : List ValT) : List UInt8 := if recE l = 0 then encVs l else []
theorem Pack32 (v : Value) (l : List ValT) (w : World) (hv : Vals w [v] l) (hm : GMx w) : CallP Tryz.prog 32 #[v] (fun r w' => ∃ e : Int, r = .tuple #[tS (packT l), .int .i64 e] ∧ Below w.heap.size w w') w := by
  refine ⟨S32.calls _ _ _ ?_⟩
  unfold S32
  refine (check_spec v l w hv).mono ?_
  rintro _ w1 ⟨rfl, hb1⟩
  by_cases h : recE l = 0
  · refine bi_neq_f (by omega) ?_
    (repeat with_reducible first|refine z_c ?_)
    refine (Key64 v l w1 (keeps_Vals _ _ _ _ hb1 hv) (hm.below hb1)).mono ?_
    rintro _ w2 ⟨rfl, hb2⟩
    unfold keyV
    (repeat with_reducible first|refine z_A ?_|refine z_B ?_)
    have hr : rowE l = 0 := by
      unfold recE at h
      split at h
      · cases h
      · exact h
    refine ⟨rowE l, ?_, below_then hb1 hb2⟩
    unfold packT tS
    rw [if_pos h, if_pos hr]
  · refine bi_neq_t (by omega) ?_
    (repeat with_reducible first|refine z_b ?_)
    refine ⟨recE l, ?_, hb1⟩
    unfold packT
    rw [if_neg h]
    rfl
end Go.Proofs.YtmnaggdhkggjhaaGreatDoor.E.Pl
namespace Go.Proofs.YtmnaggdhkggjhaaGreatDoor.E.Pl
open Go Go.RowKit
set_option linter.unusedSimpArgs false
set_option linter.unusedVariables false

theorem unE_esc : ∀ (t acc : List UInt8) (k : Nat) (r : List UInt8), acc.length + t.length ≤ 32 → unE (esc t ++ 0 :: 0 :: r) acc k = (0, acc ++ t, k + (esc t).length + 2)
  | [], acc, k, r, h => by
    show unE (0 :: 0 :: r) acc k = _
    rw [unE, if_neg (by simp), if_pos rfl, if_neg (by simp at h; omega)]
    simp [esc]
  | b :: t, acc, k, r, h => by
    have ih := fun a j => unE_esc t a j r
    rw [esc_cons]
    unfold escB
    by_cases h0 : b = 0
    · rw [if_pos h0]
      show unE (0 :: 255 :: (esc t ++ 0 :: 0 :: r)) acc k = _
      rw [unE, if_neg (by simp), if_neg (by decide), if_pos rfl, ih _ _ (by simp at h ⊢; omega), h0]
      simp only [List.append_assoc, List.singleton_append, List.length_append, List.length_cons, List.length_nil]
      congr 2
      omega
    · rw [if_neg h0]
      obtain ⟨c, q, hq⟩ : ∃ c q, esc t ++ 0 :: 0 :: r = c :: q := by
        cases he : esc t ++ 0 :: 0 :: r with
        | nil => simp at he
        | cons c q => exact ⟨c, q, rfl⟩
      show unE (b :: (esc t ++ 0 :: 0 :: r)) acc k = _
      rw [hq, unE, if_pos h0, ← hq, ih _ _ (by simp at h ⊢; omega)]
      simp only [List.append_assoc, List.singleton_append, List.length_append, List.length_cons, List.length_nil]
      congr 2
      omega
theorem dec8_be8 (n : Nat) : ∀ i, i ≤ 8 → n < 2 ^ 64 → dec8 ((be8 n).take i) = n / 2 ^ (64 - 8 * i)
  | 0, _, h => by simp [dec8]; rw [Nat.div_eq_of_lt h]
  | i + 1, hi, h => by
    rw [be8_take n i (by omega), dec8_snoc, dec8_be8 n i (by omega) h, UInt8.toNat_ofNat']
    have e : 64 - 8 * i = (56 - 8 * i) + 8 := by omega
    have e2 : 64 - 8 * (i + 1) = 56 - 8 * i := by omega
    rw [e, e2, Nat.pow_add, ← Nat.div_div_eq_div_mul]
    generalize n / 2 ^ (56 - 8 * i) = q
    have : 2 ^ 8 = 256 := by decide
    omega
theorem oneP_enc {x : ValT} (hg : goodV x = true) (hok : valOk x) (r : List UInt8) : oneP (encV x ++ r) = (0, x, (encV x).length) := by
  obtain ⟨k, n, s, _⟩ := x
  have hn := val_ok_num hok
  have hs0 : ∀ {a : ByteArray}, a.data.toList = [] → a = ⟨#[]⟩ := fun {a} h => by
    cases a with
    | mk d => simp at h; rw [h]
  unfold goodV at hg
  rw [decide_eq_true_iff] at hg
  rcases hg with ⟨h1, h2, h3⟩ | ⟨h1, h2⟩ | ⟨h1, h2, h3⟩
  · simp only at h1 h2 h3
    subst h1 h2
    rw [hs0 h3]
    show oneP (1 :: r) = _
    rw [oneP, if_pos rfl]
    rfl
  · simp only at h1 h2
    subst h1
    rw [hs0 h2]
    have hn' : -9223372036854775808 ≤ n ∧ n ≤ 9223372036854775807 := hn
    have ee : encV (1, n, ⟨#[]⟩, ()) = 2 :: be8 (numU n) := by simp [encV]
    have hl := be8_length (numU n)
    rw [ee]
    show oneP (2 :: (be8 (numU n) ++ r)) = _
    have hu : numU n < 2 ^ 64 := by unfold numU; omega
    have et : (be8 (numU n) ++ r).take 8 = be8 (numU n) := by rw [← hl, List.take_left']; rfl
    have ed : dec8 (be8 (numU n)) = numU n := by
      have := dec8_be8 (numU n) 8 (by omega) hu
      rw [List.take_of_length_le (by omega)] at this
      rw [this]; simp
    rw [oneP, if_neg (by decide), if_pos rfl, if_neg (by rw [List.length_append]; omega), et, ed]
    have : ((numU n : Nat) : Int) - 9223372036854775808 = n := by unfold numU; omega
    rw [this]
    simp [hl]
  · simp only at h1 h2 h3
    subst h1 h2
    have ee : encV (2, 0, s, ()) = 3 :: (esc s.data.toList ++ [0, 0]) := by simp [encV]
    rw [ee]
    show oneP (3 :: ((esc s.data.toList ++ [0, 0]) ++ r)) = _
    have e2 : (esc s.data.toList ++ [0, 0]) ++ r = esc s.data.toList ++ 0 :: 0 :: r := by simp
    have hsz : s.data.toList.length = s.size := rfl
    have hu := unE_esc s.data.toList [] 1 r (by simp only [List.length_nil]; omega)
    rw [oneP, if_neg (by decide), if_neg (by decide), if_pos rfl, e2, hu]
    unfold textV
    rw [if_pos rfl]
    simp
    omega
theorem encV_head (x : ValT) : ∃ b q, encV x = b :: q ∧ b ≠ 0 := by
  unfold encV
  split
  · exact ⟨_, _, rfl, by decide⟩
  · split
    · exact ⟨_, _, rfl, by decide⟩
    · exact ⟨_, _, rfl, by decide⟩
theorem cutF_enc : ∀ (l acc : List ValT) (k : Nat), acc.length + k = 4 → l.length ≤ k → (∀ x ∈ l, goodV x = true ∧ valOk x) → cutF k (encVs l) acc = (0, acc ++ l, [])
  | [], acc, k, _, _, _ => by
    show cutF k [] acc = _
    cases k <;> rw [cutF] <;> simp
  | x :: l, acc, 0, _, hl, _ => by simp at hl
  | x :: l, acc, k + 1, ha, hl, hg => by
    obtain ⟨b, q, hb, h0⟩ := encV_head x
    have hx := hg x (List.mem_cons_self ..)
    have e : encVs (x :: l) = encV x ++ encVs l := rfl
    have ho := oneP_enc hx.1 hx.2 (encVs l)
    have ec : encV x ++ encVs l = b :: (q ++ encVs l) := by rw [hb]; rfl
    rw [e]
    rw [ec] at ho ⊢
    rw [cutF, if_neg h0, ho, if_neg (by simp)]
    simp only
    rw [← ec, List.drop_left, cutF_enc l _ k (by simp; omega) (by simp at hl; omega) fun y hy => hg y (List.mem_cons_of_mem _ hy)]
    simp
theorem unpack_pack {l : List ValT} (h : recE l = 0) (hok : ∀ x ∈ l, valOk x) : unpackP (packT l) = (0, l) := by
  have hl : l.length ≠ 0 ∧ rowE l = 0 := by
    unfold recE at h
    split at h
    · cases h
    · rename_i h0; exact ⟨h0, h⟩
  obtain ⟨h4, hg⟩ := rowE_0.1 hl.2
  have hc := cutF_enc l [] 4 rfl h4 fun x hx => ⟨List.all_eq_true.1 hg x hx, hok x hx⟩
  unfold packT
  rw [if_pos h]
  have hv : valsP (encVs l) = (0, l) := by
    unfold valsP
    simp only [hc]
    simp
  unfold unpackP
  simp only [hv]
  rw [if_neg (by simp), if_neg (by intro e; rw [e] at hl; exact hl.1 rfl)]
theorem packT_len (l : List ValT) : (packT l).length ≤ 268 := by
  unfold packT
  split
  · rename_i h
    have hr : rowE l = 0 := by
      unfold recE at h
      split at h
      · cases h
      · exact h
    obtain ⟨h4, hg⟩ := rowE_0.1 hr
    have := encVs_length hg
    omega
  · simp
theorem packT_nil (l : List ValT) (h : recE l = 0) : packT l ≠ [] := by
  unfold packT
  rw [if_pos h]
  cases l with
  | nil => cases h
  | cons x l =>
    obtain ⟨b, q, hb, _⟩ := encV_head x
    show encV x ++ _ ≠ []
    rw [hb]
    simp
end Go.Proofs.YtmnaggdhkggjhaaGreatDoor.E.Pl
namespace Go.Proofs.YtmnaggdhkggjhaaGreatDoor.Frame
theorem flat_take (bss : List (List UInt8)) (k : Nat) (h : k < bss.length) : (bss.take (k + 1)).flatten = (bss.take k).flatten ++ bss[k] := by
  rw [List.take_succ_eq_append_getElem h, List.flatten_append, List.flatten_cons, List.flatten_nil, List.append_nil]
theorem flat_le (bss : List (List UInt8)) (k : Nat) : (bss.take k).flatten.length ≤ bss.flatten.length := by
  have h := congrArg (fun x => x.flatten.length) (List.take_append_drop k bss)
  simp only [List.flatten_append, List.length_append] at h
  omega
end Go.Proofs.YtmnaggdhkggjhaaGreatDoor.Frame
namespace Go.Proofs.YtmnaggdhkggjhaaGreatDoor.Pack
def num (n : Nat) : List UInt8 := if h : n ≤ 127 then [UInt8.ofNat n] else (UInt8.ofNat n ||| 128) :: num (n / 128)
termination_by n
decreasing_by all_goals omega
theorem num_small (n : Nat) (h : n ≤ 127) : num n = [UInt8.ofNat n] := by rw [num, dif_pos h]
theorem num_big (n : Nat) (h : ¬ n ≤ 127) : num n = (UInt8.ofNat n ||| 128) :: num (n / 128) := by rw [num, dif_neg h]
theorem num_length (n : Nat) : (num n).length ≤ n + 1 := by
  induction n using Nat.strongRecOn with
  | _ n ih =>
    by_cases h : n ≤ 127
    · rw [num_small n h]; simp
    · rw [num_big n h, List.length_cons]
      have := ih (n / 128) (by omega)
      omega
def text (s : ByteArray) : List UInt8 := num s.data.toList.length ++ s.data.toList
theorem num_log (k : Nat) : ∀ n, n < 128 ^ (k + 1) → (num n).length ≤ k + 1 := by
  induction k with
  | zero =>
    intro n h
    rw [num_small n (by simp at h; omega)]; simp
  | succ k ih =>
    intro n h
    by_cases hs : n ≤ 127
    · rw [num_small n hs]; simp
    · rw [num_big n hs, List.length_cons]
      have := ih (n / 128) (by rw [Nat.pow_succ] at h; omega)
      omega
end Go.Proofs.YtmnaggdhkggjhaaGreatDoor.Pack
namespace Go.Proofs.YtmnaggdhkggjhaaGreatDoor.Pack
/-- The number that stands there, its k-th byte first: the number, how many bytes, the error. -/
def getFrom : Nat → List UInt8 → Nat × Nat × Nat
  | _, [] => (0, 0, 2)
  | k, c :: r =>
    if (128 ≤ c.toNat ∧ k = 8) ∨ (c.toNat = 0 ∧ 0 < k) then (0, 0, 3)
    else if c.toNat < 128 then (c.toNat, 1, 0)
    else if (getFrom (k + 1) r).2.2 = 0 then (c.toNat % 128 + 128 * (getFrom (k + 1) r).1, (getFrom (k + 1) r).2.1 + 1, 0)
    else (0, 0, (getFrom (k + 1) r).2.2)
theorem getFrom_err : ∀ (bs : List UInt8) (k : Nat), (getFrom k bs).2.2 ≠ 0 → getFrom k bs = (0, 0, (getFrom k bs).2.2)
  | [], k, _ => rfl
  | c :: r, k, h => by
    rw [getFrom] at h ⊢
    split
    · rfl
    rename_i h1
    rw [if_neg h1] at h
    split
    · rename_i h2; rw [if_pos h2] at h; exact absurd rfl h
    rename_i h2
    rw [if_neg h2] at h
    split
    · rename_i h3; rw [if_pos h3] at h; exact absurd rfl h
    · rfl
theorem or128_mod (c : UInt8) (h : 128 ≤ c.toNat) : UInt8.ofNat (c.toNat % 128) ||| 128 = c := by
  have : ∀ i : Fin 256, 128 ≤ i.val → UInt8.ofNat (i.val % 128) ||| 128 = UInt8.ofNat i.val := by decide +kernel
  have := this ⟨c.toNat, c.toNat_lt⟩ h
  simpa using this
theorem or128_low (m : Nat) : UInt8.ofNat m ||| 128 = UInt8.ofNat (m % 128) ||| 128 := by
  have h : ∀ i : Fin 256, UInt8.ofNat i.val ||| 128 = UInt8.ofNat (i.val % 128) ||| 128 := by decide +kernel
  have h1 : UInt8.ofNat m = UInt8.ofNat (m % 256) := by
    apply UInt8.toNat_inj.1; simp only [UInt8.toNat_ofNat']; omega
  rw [h1, h ⟨m % 256, by omega⟩]
  rw [show (m % 256) % 128 = m % 128 from by omega]
/-- What is read is a number's own form. -/
theorem getFrom_num : ∀ (bs : List UInt8) (k : Nat), (getFrom k bs).2.2 = 0 → num (getFrom k bs).1 = bs.take (getFrom k bs).2.1 ∧ (0 < k → 0 < (getFrom k bs).1) ∧ (getFrom k bs).2.1 ≤ bs.length ∧ 1 ≤ (getFrom k bs).2.1
  | [], k, h => by simp [getFrom] at h
  | c :: r, k, h => by
    have hc := c.toNat_lt
    rw [getFrom] at h ⊢
    split at h
    · simp at h
    rename_i h1
    rw [if_neg h1]
    split at h
    · rename_i h2
      rw [if_pos h2]
      refine ⟨?_, fun hk => ?_, by simp, by simp⟩
      · rw [num_small _ (by simp only; omega)]; simp
      · simp only; omega
    rename_i h2
    rw [if_neg h2]
    split at h
    · rename_i h3
      rw [if_pos h3]
      obtain ⟨e1, e2, e3, e4⟩ := getFrom_num r (k + 1) h3
      have hp := e2 (by omega)
      generalize (getFrom (k + 1) r).1 = m at *
      generalize (getFrom (k + 1) r).2.1 = u at *
      refine ⟨?_, fun _ => by simp only; omega, by simp only [List.length_cons]; omega, by simp only; omega⟩
      simp only
      rw [num_big _ (by omega), or128_low, show (c.toNat % 128 + 128 * m) % 128 = c.toNat % 128 from by omega, or128_mod c (by omega), show (c.toNat % 128 + 128 * m) / 128 = m from by omega, e1]
      simp
    · simp at h
      exact absurd h (by rename_i h3; exact h3)
/-- And each number's form is read. -/
theorem getFrom_of_num (k : Nat) : ∀ (n : Nat) (r : List UInt8), n < 128 ^ (9 - k) → k ≤ 8 → (0 < k → 0 < n) → getFrom k (num n ++ r) = (n, (num n).length, 0) := by
  intro n
  induction n using Nat.strongRecOn generalizing k with
  | _ n ih =>
    intro r hn hk hpos
    by_cases hs : n ≤ 127
    · have e : (UInt8.ofNat n).toNat = n := by rw [UInt8.toNat_ofNat']; omega
      rw [num_small n hs]
      simp only [List.cons_append, List.nil_append, getFrom, e]
      rw [if_neg (by omega), if_pos (by omega)]
      simp
    · rw [num_big n hs]
      have e : (UInt8.ofNat n ||| 128).toNat = n % 128 + 128 := by
        have h : ∀ i : Fin 128, (UInt8.ofNat i.val ||| 128).toNat = i.val + 128 := by decide +kernel
        rw [or128_low, h ⟨n % 128, by omega⟩]
      have hk8 : k < 8 := by
        rcases Nat.lt_or_ge k 8 with h | h
        · exact h
        · have : k = 8 := by omega
          subst this
          simp at hn
          omega
      have hlt : n / 128 < 128 ^ (9 - (k + 1)) := by
        have : 128 ^ (9 - k) = 128 ^ (9 - (k + 1)) * 128 := by rw [← Nat.pow_succ]; congr 1; omega
        omega
      have := ih (n / 128) (by omega) (k + 1) r hlt (by omega) (fun _ => by omega)
      simp only [List.cons_append, getFrom, e, this]
      rw [if_neg (by omega), if_neg (by omega), if_pos trivial]
      simp only [List.length_cons, Prod.mk.injEq, and_true]
      omega
end Go.Proofs.YtmnaggdhkggjhaaGreatDoor.Pack
namespace Go.Proofs.YtmnaggdhkggjhaaGreatDoor.Be4
def put (n : Nat) : List UInt8 := [UInt8.ofNat (n / 16777216), UInt8.ofNat (n / 65536), UInt8.ofNat (n / 256), UInt8.ofNat n]
def get (l : List UInt8) : Nat := l.foldl (fun n c => n * 256 + c.toNat) 0
theorem wrap_u8 (n : Nat) : IntKind.u8.wrap (n : Int) = ((UInt8.ofNat n).toNat : Int) := by
  rw [UInt8.toNat_ofNat']
  simp [IntKind.wrap, IntKind.signed, IntKind.bits]
end Go.Proofs.YtmnaggdhkggjhaaGreatDoor.Be4

