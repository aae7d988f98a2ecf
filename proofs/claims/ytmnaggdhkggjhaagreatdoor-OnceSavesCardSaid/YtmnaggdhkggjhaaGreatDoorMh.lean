import Derived.Test.YtmnaggdhkggjhaaGreatDoorMg
namespace Go.Proofs.YtmnaggdhkggjhaaGreatDoor.E.Pl
open Go Go.RowKit
set_option linter.unusedSimpArgs false
set_option linter.unusedVariables false

/-- A text that begins there: the error, the text, how many bytes. -/
def unE : List UInt8 → List UInt8 → Nat → Nat × List UInt8 × Nat
  | [], _, _ => (2, [], 0)
  | [_], _, _ => (2, [], 0)
  | b :: c :: r, acc, k => if b ≠ 0 then unE (c :: r) (acc ++ [b]) (k + 1) else if c = 0 then (if 32 < acc.length then (4, [], 0) else (0, acc, k + 2)) else if c = 255 then unE r (acc ++ [0]) (k + 2) else (3, [], 0)
def zeroV : ValT := (0, 0, ⟨#[]⟩, ())
def textV (t : Nat × List UInt8 × Nat) : ValT := if t.1 = 0 then (2, 0, ⟨t.2.1.toArray⟩, ()) else zeroV
theorem unE_short {l acc : List UInt8} {k : Nat} (h : l.length ≤ 1) : unE l acc k = (2, [], 0) := by
  match l, h with
  | [], _ => rw [unE]
  | [b], _ => rw [unE]
theorem drop_two {s : List UInt8} {k : Nat} (h : k + 1 < s.length) : s.drop k = s[k] :: s[k + 1] :: s.drop (k + 2) := by
  rw [List.drop_eq_getElem_cons (by omega), List.drop_eq_getElem_cons (i := k + 1) (by omega)]
theorem u8_lit {c : UInt8} {n : Nat} (h : (c.toNat : Int) = (n : Int)) (hn : n < 256) : c = UInt8.ofNat n := by
  apply UInt8.toNat_inj.1
  rw [UInt8.toNat_ofNat']
  omega
theorem u8_ne {c : UInt8} {n : Nat} (h : ¬ (c.toNat : Int) = (n : Int)) (hn : n < 256) : c ≠ UInt8.ofNat n := fun e => h (by
  rw [e, UInt8.toNat_ofNat']
  omega)
set_option maxHeartbeats 1000000 in
theorem Text96 (s : List UInt8) (w : World) (hs : s.length ≤ 200000) (h1 : 1 ≤ s.length) : CallP Tryz.prog 96 #[tS s] (fun r w' => r = .tuple #[.agg (valF (textV (unE (s.drop 1) [] 1))).toArray, .int .i64 (unE (s.drop 1) [] 1).2.2, .int .i64 (unE (s.drop 1) [] 1).1] ∧ Below w.heap.size w w') w := by
  refine ⟨S96.calls _ _ _ ?_⟩
  unfold S96
  refine alB zVal ?_
  intro g w1 hg hB1 hb1
  refine alB zBld ?_
  intro b w2 hb hBb hb2
  have hgb : g < b := by rw [hb]; exact hB1.lt
  have hwb : w.heap.size ≤ b := by have := hb1.size; omega
  have hb12 : Below w.heap.size w w2 := below_then hb1 hb2
  have hbs : b < w2.heap.size := hBb.lt
  have hG2 : Blk w2 g 91 (valF zeroV).toArray := hB1.below' hb2
  have fin : ∀ (w' : World), Below b w2 w' → Below w.heap.size w w' ∧ Blk w' g 91 (valF zeroV).toArray := fun w' hb' => ⟨hb12.trans (hb'.mono hwb), (hb'.block g hgb).trans hG2⟩
  generalize hres : unE (s.drop 1) [] 1 = res
  refine LoopP.inv1 (fun kv w' => ∃ (k : Nat) (acc : List UInt8), kv = .int .i64 k ∧ 1 ≤ k ∧ k ≤ s.length + 1 ∧ acc.length ≤ k ∧ unE (s.drop k) acc k = res ∧ BldR b b acc w' ∧ Below b w2 w') (fun kv _ => s.length + 1 - (intOf kv).toNat) ⟨1, [], rfl, by omega, by omega, by simp, hres, BldR.new hBb, Below.refl _ _⟩ ?_
  rintro _ w3 ⟨k, acc, rfl, hk1, hk2, hak, hun, hbl, hb3⟩ J hJ
  obtain ⟨hbw, hG3⟩ := fin w3 hb3
  have hsz3 : b ≤ w3.heap.size := by have := hb3.size; omega
  dsimp only [List.headD_cons, List.tail_cons]
  -- an error: what is told is nothing
  have bad : ∀ (e : Nat), res = (e, [], 0) → e ≠ 0 → ∀ (R : Value → World → Prop), (∀ x w', x = .tuple #[.agg (valF (textV res)).toArray, .int .i64 res.2.2, .int .i64 res.1] ∧ Below w.heap.size w w' → R x w') →
      LiftP Tryz.prog (Instr.loadAt 91 (.pointer (some ⟨g, 0, none⟩))) (fun v26 w => LiftU Tryz.prog (Instr.storeAt 91 (.pointer (some ⟨g, 0, none⟩)) v26) (fun _ w => RetC Tryz.prog (.pointer (some ⟨g, 0, none⟩)) 91 (fun x => R (.tuple #[x, .int .i64 0, .int .i64 e]) w) w) w) w3 := by
    intro e he h0 R hR
    refine ldA aggVal hG3 (by rw [szVal]; rfl) ?_
    refine stB hG3 szVal rfl (valF_all zeroV) ?_
    intro w4 hB4 hT4
    refine retA aggVal hB4 (by rw [szVal]; rfl) ?_
    refine hR _ _ ⟨?_, ?_⟩
    · rw [he]
      unfold textV
      rw [if_neg h0]
      rfl
    · exact hbw.trans (hT4.below (by have := hbw.size; omega) fun j hj e => by omega)
  refine JoinP.cut (fun vs w' => ∃ (k' : Nat) (acc' : List UInt8), vs = [.int .i64 k'] ∧ k ≤ k' ∧ k' ≤ s.length ∧ acc'.length ≤ k' + 1 ∧ unE (s.drop (k' + 1)) acc' (k' + 1) = res ∧ BldR b b acc' w' ∧ Below b w2 w') (fun J1 hJ1 => ?_) ?_
  rotate_left
  · rintro _ w4 ⟨k', acc', rfl, hk', hk2', hak', hun', hbl', hb4⟩
    dsimp only [List.headD_cons, List.tail_cons]
    (repeat with_reducible first|refine z_o (by omega) ?_)
    rw [show (k' : Int) + 1 = ((k' + 1 : Nat) : Int) by omega]
    exact hJ _ _ ⟨k' + 1, acc', rfl, by omega, by omega, by omega, hun', hbl', hb4⟩ (by show s.length + 1 - ((k' + 1 : Nat) : Int).toNat < s.length + 1 - (k : Int).toNat; omega)
  refine JoinP.cut (fun vs w' => vs = [.bool (decide (s.length ≤ k ∨ ∃ h : k < s.length, s[k] = 0 ∧ s.length ≤ k + 1))] ∧ w' = w3) (fun J2 hJ2 => ?_) ?_
  · refine lnT und9 ?_
    refine bi_geq_c (fun h => ?_) (fun h => ?_)
    · (repeat with_reducible first|refine z_b ?_)
      exact hJ2 _ _ ⟨by rw [decide_eq_true (.inl (by omega))], rfl⟩
    have hlt : k < s.length := by omega
    (repeat with_reducible first|refine z_c ?_)
    refine ixT und9 k hlt ?_
    refine bi_eql_c (fun h0 => ?_) (fun h0 => ?_)
    · (repeat with_reducible first|refine z_d ?_|refine z_o (by omega) ?_)
      refine lnT und9 ?_
      (repeat with_reducible first|refine z_d ?_)
      have hz : s[k] = 0 := u8_lit (n := 0) h0 (by omega)
      refine bi_geq_c (fun h2 => ?_) (fun h2 => ?_)
      · (repeat with_reducible first|refine z_k ?_)
        exact hJ2 _ _ ⟨by rw [decide_eq_true (.inr ⟨hlt, hz, by omega⟩)], rfl⟩
      · (repeat with_reducible first|refine z_k ?_)
        exact hJ2 _ _ ⟨by rw [decide_eq_false (by rintro (h | ⟨_, _, h⟩) <;> omega)], rfl⟩
    · (repeat with_reducible first|refine z_e ?_|refine z_l ?_)
      have hz : s[k] ≠ 0 := u8_ne (n := 0) h0 (by omega)
      exact hJ2 _ _ ⟨by rw [decide_eq_false (by rintro (h | ⟨_, h, _⟩) <;> first | omega | exact hz h)], rfl⟩
  rintro _ _ ⟨rfl, rfl⟩
  dsimp only [List.headD_cons, List.tail_cons]
  by_cases hsh : s.length ≤ k ∨ ∃ h : k < s.length, s[k] = 0 ∧ s.length ≤ k + 1
  · rw [decide_eq_true hsh]
    (repeat with_reducible first|refine z_b ?_)
    refine bad 2 ?_ (by omega) _ fun x w' h => h
    rw [← hun]
    exact unE_short (by rw [List.length_drop]; rcases hsh with h | ⟨_, _, h⟩ <;> omega)
  rw [decide_eq_false hsh]
  have hlt : k < s.length := by
    refine Nat.lt_of_not_le fun h => hsh (.inl h)
  (repeat with_reducible first|refine z_c ?_)
  refine ixT und9 k hlt ?_
  refine bi_neq_c (fun h0 => ?_) (fun h0 => ?_)
  · (repeat with_reducible first|refine z_b ?_)
    refine ixT und9 k hlt ?_
    refine (hbl.write (by omega) hsz3 s[k]).mono ?_
    rintro _ w4 ⟨hbl4, hb4⟩
    have hz : s[k] ≠ 0 := u8_ne (n := 0) h0 (by omega)
    refine hJ1 _ _ ⟨k, acc ++ [s[k]], rfl, by omega, by omega, by simp; omega, ?_, hbl4, hb3.trans hb4⟩
    rw [← hun]
    by_cases h1 : k + 1 < s.length
    · rw [drop_two h1, unE, if_pos hz]
      rw [← List.drop_eq_getElem_cons h1]
    · rw [unE_short (by rw [List.length_drop]; omega), unE_short (by rw [List.length_drop]; omega)]
  have hz : s[k] = 0 := u8_lit (n := 0) (by omega) (by omega)
  have h1 : k + 1 < s.length := Nat.lt_of_not_le fun h => hsh (.inr ⟨hlt, hz, h⟩)
  rw [drop_two h1, unE, if_neg (by rw [hz]; simp)] at hun
  have hk1e : (k : Int) + 1 = ((k + 1 : Nat) : Int) := by omega
  (repeat with_reducible first|refine z_c ?_|refine z_o (by omega) ?_)
  rw [hk1e]
  refine ixT und9 (k + 1) h1 ?_
  refine bi_eql_c (fun h2 => ?_) (fun h2 => ?_)
  · have hz2 : s[k + 1] = 0 := u8_lit (n := 0) h2 (by omega)
    rw [if_pos hz2] at hun
    (repeat with_reducible first|refine z_b ?_)
    refine hbl.len.mono ?_
    rintro _ _ ⟨rfl, rfl⟩
    refine bi_gtr_c (fun h3 => ?_) (fun h3 => ?_)
    · rw [if_pos (by omega)] at hun
      (repeat with_reducible first|refine z_b ?_)
      exact bad 4 hun.symm (by omega) _ fun x w' h => h
    rw [if_neg (by omega)] at hun
    (repeat with_reducible first|refine z_c ?_)
    refine (hbl.str hsz3).mono ?_
    rintro _ w4 ⟨rfl, hb4⟩
    obtain ⟨hbw4, hG4⟩ := fin w4 (hb3.trans hb4)
    refine bd (cells := (valF (2, 0, ⟨acc.toArray⟩, ())).toArray) (by kernel_rfl) ?_
    (repeat with_reducible first|refine z_o (by omega) ?_)
    refine stB (cells := (valF (2, 0, ⟨acc.toArray⟩, ())).toArray) hG4 szVal rfl (valF_all _) ?_
    intro w5 hB5 hT5
    refine retA aggVal hB5 (by rw [szVal]; rfl) ?_
    refine ⟨?_, hbw4.trans (hT5.below (by have := hbw4.size; omega) fun j hj e => by omega)⟩
    rw [← hun]
    unfold textV
    rw [if_pos rfl]
    rfl
  have hz2 : s[k + 1] ≠ 0 := u8_ne (n := 0) h2 (by omega)
  rw [if_neg hz2] at hun
  (repeat with_reducible first|refine z_c ?_|refine z_o (by omega) ?_)
  rw [hk1e]
  refine ixT und9 (k + 1) h1 ?_
  refine bi_eql_c (fun h4 => ?_) (fun h4 => ?_)
  · have hz3 : s[k + 1] = 255 := u8_lit (n := 255) h4 (by omega)
    rw [if_pos hz3] at hun
    (repeat with_reducible first|refine z_b ?_)
    refine (hbl.write (c := 0) (by omega) hsz3).mono ?_
    rintro _ w4 ⟨hbl4, hb4⟩
    (repeat with_reducible first|refine z_o (by omega) ?_)
    rw [hk1e]
    exact hJ1 _ _ ⟨k + 1, acc ++ [0], rfl, by omega, by omega, by simp; omega, hun, hbl4, hb3.trans hb4⟩
  · have hz3 : s[k + 1] ≠ 255 := u8_ne (n := 255) h4 (by omega)
    rw [if_neg hz3] at hun
    (repeat with_reducible first|refine z_c ?_)
    exact bad 3 hun.symm (by omega) _ fun x w' h => h
end Go.Proofs.YtmnaggdhkggjhaaGreatDoor.E.Pl
namespace Go.Proofs.YtmnaggdhkggjhaaGreatDoor.E.Pl
open Go Go.RowKit
set_option linter.unusedSimpArgs false
set_option linter.unusedVariables false

def dec8 (l : List UInt8) : Nat := l.foldl (fun a c => a * 256 + c.toNat) 0
theorem dec8_snoc (l : List UInt8) (c : UInt8) : dec8 (l ++ [c]) = dec8 l * 256 + c.toNat := by simp [dec8]
theorem dec8_lt : ∀ (n : Nat) (l : List UInt8), l.length = n → dec8 l < 256 ^ n
  | 0, l, h => by rw [List.eq_nil_of_length_eq_zero h]; decide
  | n + 1, l, h => by
    obtain ⟨r, c, rfl⟩ : ∃ r c, l = r ++ [c] := ⟨l.dropLast, l.getLast (by intro e; rw [e] at h; simp at h), (List.dropLast_concat_getLast _).symm⟩
    have := dec8_lt n r (by simpa using h)
    have hc := c.toNat_lt
    rw [dec8_snoc, Nat.pow_succ]
    omega
/-- The value that a text begins with: the error, the value, how many bytes. -/
def oneP : List UInt8 → Nat × ValT × Nat
  | [] => (3, zeroV, 0)
  | b :: r => if b = 1 then (0, zeroV, 1) else if b = 2 then (if r.length < 8 then (2, zeroV, 0) else (0, (1, (dec8 (r.take 8) : Int) - 9223372036854775808, ⟨#[]⟩, ()), 9)) else if b = 3 then ((unE r [] 1).1, textV (unE r [] 1), (unE r [] 1).2.2) else (3, zeroV, 0)
theorem or_u64 (a c : Nat) (ha : a * 256 < 18446744073709551616) (hc : c < 256) : bits .or .u64 ((a * 256 : Nat) : Int) (c : Int) = ((a * 256 + c : Nat) : Int) := by
  have hor : a * 256 ||| c = a * 256 + c := by
    have h1 : a * 256 = a <<< 8 := by rw [Nat.shiftLeft_eq]
    have := Nat.shiftLeft_add_eq_or_of_lt (i := 8) (b := c) (by omega) a
    rw [h1, ← this]
  show IntKind.u64.wrap _ = _
  have e : ∀ n : Nat, n < 18446744073709551616 → (BitVec.ofInt 64 (n : Int)).toNat = n := fun n hn => by simp; omega
  have e3 : ((BitVec.ofInt 64 ((a * 256 : Nat) : Int)) ||| (BitVec.ofInt 64 (c : Int))).toNat = a * 256 + c := by rw [BitVec.toNat_or, e _ ha, e _ (by omega), hor]
  have e4 : ((BitVec.ofInt IntKind.u64.bits ((a * 256 : Nat) : Int) ||| BitVec.ofInt IntKind.u64.bits (c : Int)).toNat : Int) = ((a * 256 + c : Nat) : Int) := by
    show (((BitVec.ofInt 64 ((a * 256 : Nat) : Int)) ||| (BitVec.ofInt 64 (c : Int))).toNat : Int) = _
    rw [e3]
  have e2 : IntKind.u64.wrap ((a * 256 + c : Nat) : Int) = ((a * 256 + c : Nat) : Int) := by rw [wrap_u64]; omega
  rw [← e2, ← e4]
theorem xor_back (x : Nat) (h : x < 18446744073709551616) : IntKind.i64.wrap (bits .xor .u64 (x : Int) 9223372036854775808) = (x : Int) - 9223372036854775808 := by
  have e1 : IntKind.u64.wrap ((x : Int) - 9223372036854775808 + 9223372036854775808) = x := by rw [wrap_u64]; omega
  have hx := numU_xor (IntKind.i64.wrap (x : Int)) (by
    have : IntKind.i64.wrap (x : Int) = if x < 9223372036854775808 then (x : Int) else (x : Int) - 18446744073709551616 := by
      simp [IntKind.wrap, IntKind.signed, IntKind.bits]
      omega
    rw [this]; split <;> omega)
  have e2 : IntKind.u64.wrap (IntKind.i64.wrap (x : Int)) = (x : Int) := by
    have : IntKind.i64.wrap (x : Int) = if x < 9223372036854775808 then (x : Int) else (x : Int) - 18446744073709551616 := by
      simp [IntKind.wrap, IntKind.signed, IntKind.bits]
      omega
    rw [this, wrap_u64]; split <;> omega
  rw [e2] at hx
  rw [hx]
  have e3 : IntKind.i64.wrap (x : Int) = if x < 9223372036854775808 then (x : Int) else (x : Int) - 18446744073709551616 := by
    simp [IntKind.wrap, IntKind.signed, IntKind.bits]
    omega
  unfold numU
  rw [e3]
  simp [IntKind.wrap, IntKind.signed, IntKind.bits]
  split <;> omega
theorem sz5 : (Tryz.prog.info? 5).map (·.size) = some 1 := by kernel_rfl
theorem undU64 : Tryz.prog.underlying 138 = some (.int .u64) := und64
set_option maxHeartbeats 1000000 in
theorem One87 (s : List UInt8) (w : World) (hs : s.length ≤ 200000) (h1 : 1 ≤ s.length) : CallP Tryz.prog 87 #[tS s] (fun r w' => r = .tuple #[.agg (valF (oneP s).2.1).toArray, .int .i64 (oneP s).2.2, .int .i64 (oneP s).1] ∧ Below w.heap.size w w') w := by
  refine ⟨S87.calls _ _ _ ?_⟩
  unfold S87
  refine alB zVal ?_
  intro g w1 hg hB1 hb1
  have hgs : g < w1.heap.size := hB1.lt
  obtain ⟨b, r, rfl⟩ : ∃ b r, s = b :: r := by
    cases s with
    | nil => simp at h1
    | cons b r => exact ⟨b, r, rfl⟩
  have tell : ∀ (x : ValT) (w2 : World), Below w1.heap.size w1 w2 → ∀ (K : Value → World → Prop), (∀ (w' : World), Below w.heap.size w w' → K (.agg (valF x).toArray) w') →
      LiftU Tryz.prog (Instr.storeAt 91 (.pointer (some ⟨g, 0, none⟩)) (.agg (valF x).toArray)) (fun _ w => RetC Tryz.prog (.pointer (some ⟨g, 0, none⟩)) 91 (fun x => K x w) w) w2 := by
    intro x w2 hb2 K hK
    refine stB (cells := (valF x).toArray) (hB1.below' hb2) szVal rfl (valF_all x) ?_
    intro w3 hB3 hT3
    refine retA aggVal hB3 (by rw [szVal]; rfl) ?_
    have h2 := below_then hb1 hb2
    exact hK w3 (h2.trans (hT3.below (by have := h2.size; omega) fun j hj e => by omega))
  have hr := Below.refl w1.heap.size w1
  skip
  refine ixT und9 (i := 0) (by simp) ?_
  have hb0 : (b :: r)[0] = b := rfl
  rw [hb0]
  refine bi_eql_c (fun e1 => ?_) (fun e1 => ?_)
  · have hb : b = 1 := u8_lit (n := 1) e1 (by omega)
    subst hb
    have eo : oneP (1 :: r) = (0, zeroV, 1) := by rw [oneP, if_pos rfl]
    rw [eo]
    (repeat with_reducible first|refine z_b ?_)
    refine ldA aggVal hB1 (by rw [szVal]; rfl) ?_
    exact tell zeroV w1 hr (fun x w' => _ ∧ _) fun w' h => ⟨rfl, h⟩
  have hb : b ≠ 1 := u8_ne (n := 1) e1 (by omega)
  (repeat with_reducible first|refine z_c ?_)
  refine bi_eql_c (fun e2 => ?_) (fun e2 => ?_)
  · have hb : b = 2 := u8_lit (n := 2) e2 (by omega)
    subst hb
    (repeat with_reducible first|refine z_b ?_)
    refine lnT und9 ?_
    refine bi_lss_c (fun e3 => ?_) (fun e3 => ?_)
    · have eo : oneP (2 :: r) = (2, zeroV, 0) := by rw [oneP, if_neg (by decide), if_pos rfl, if_pos (by simp at e3; omega)]
      rw [eo]
      (repeat with_reducible first|refine z_b ?_)
      refine ldA aggVal hB1 (by rw [szVal]; rfl) ?_
      exact tell zeroV w1 hr (fun x w' => _ ∧ _) fun w' h => ⟨rfl, h⟩
    have hl : ¬ r.length < 8 := by simp at e3; omega
    have eo : oneP (2 :: r) = (0, (1, (dec8 (r.take 8) : Int) - 9223372036854775808, ⟨#[]⟩, ()), 9) := by rw [oneP, if_neg (by decide), if_pos rfl, if_neg hl]
    rw [eo]
    (repeat with_reducible first|refine z_c ?_)
    refine cutTB und9 (a := 2 :: r) 1 9 (by omega) (by simp; omega) ?_
    have ec : ((2 :: r).drop 1).take (9 - 1) = r.take 8 := rfl
    rw [ec]
    have hl8 : (r.take 8).length = 8 := by rw [List.length_take]; omega
    refine cvSB und9 undBy und5 (by show (r.take 8).toArray.size ≤ _; simp; omega) ?_
    intro v2 w2 hv2 hb2
    have hv2 : RdB w2 v2 (r.take 8) := by simpa using hv2
    obtain ⟨A, c, rfl, _⟩ := hv2.slice
    rw [hl8]
    refine ln undBy ?_
    refine LoopP.inv2 (fun xv iv w' => ∃ i : Nat, i ≤ 8 ∧ iv = .int .i64 i ∧ xv = .int .u64 (dec8 ((r.take 8).take i) : Nat) ∧ w' = w2) (fun _ iv _ => 8 - (intOf iv).toNat) ⟨0, by omega, rfl, rfl, rfl⟩ ?_
    rintro _ _ _ ⟨i, hi, rfl, rfl, rfl⟩ J hJ
    dsimp only [List.headD_cons, List.tail_cons]
    refine bi_lss_c (fun h8 => ?_) (fun h8 => ?_)
    · have hi8 : i < 8 := by omega
      (repeat with_reducible first|refine z_b ?_)
      rw [hl8] at hv2
      obtain ⟨p, hp, hca⟩ := RdB.at hv2 i (by rw [hl8]; omega)
      subst hp
      refine ix1 undBy sz5 (i := i) hi8 ?_
      refine ld one5 hca ?_
      have hd := dec8_lt i ((r.take 8).take i) (by rw [List.length_take, hl8]; omega)
      have hp8 : 256 ^ i ≤ 256 ^ 7 := Nat.pow_le_pow_right (by decide) (by omega)
      refine bi_shl (by omega) (by decide) ?_
      have es : IntKind.u64.wrap ((dec8 ((r.take 8).take i) : Int) * 2 ^ (8 : Int).toNat) = ((dec8 ((r.take 8).take i) * 256 : Nat) : Int) := by
        have : (2 : Int) ^ (8 : Int).toNat = 256 := by decide
        rw [this, wrap_u64]
        omega
      rw [es]
      refine cv und5 undU64 ?_
      have hcl := ((r.take 8)[i]'(by rw [hl8]; omega)).toNat_lt
      have ew : IntKind.u64.wrap (((r.take 8)[i]'(by rw [hl8]; omega)).toNat : Int) = (((r.take 8)[i]'(by rw [hl8]; omega)).toNat : Int) := by rw [wrap_u64]; omega
      rw [ew]
      refine bi_or ?_
      rw [or_u64 _ _ (by omega) (by omega)]
      (repeat with_reducible first|refine z_o (by omega) ?_)
      rw [show (i : Int) + 1 = ((i + 1 : Nat) : Int) by omega]
      refine hJ _ _ _ ⟨i + 1, by omega, rfl, ?_, rfl⟩ (by show 8 - ((i + 1 : Nat) : Int).toNat < 8 - (i : Int).toNat; omega)
      have et : (r.take 8).take (i + 1) = (r.take 8).take i ++ [(r.take 8)[i]'(by rw [hl8]; omega)] := List.take_succ_eq_append_getElem (by rw [hl8]; omega)
      rw [et, dec8_snoc]
    · have : i = 8 := by omega
      subst this
      have e8 : (r.take 8).take 8 = r.take 8 := List.take_of_length_le (by omega)
      rw [e8]
      have hd := dec8_lt 8 (r.take 8) hl8
      (repeat with_reducible first|refine z_c ?_|refine z_J ?_)
      refine cv undU64 und3 ?_
      rw [xor_back _ (by simpa using hd)]
      refine bd (cells := (valF (1, (dec8 (r.take 8) : Int) - 9223372036854775808, ⟨#[]⟩, ())).toArray) (by kernel_rfl) ?_
      exact tell _ _ hb2 (fun x w' => _ ∧ _) fun w' h => ⟨rfl, h⟩
  have hb2 : b ≠ 2 := u8_ne (n := 2) e2 (by omega)
  (repeat with_reducible first|refine z_c ?_)
  refine bi_eql_c (fun e3 => ?_) (fun e3 => ?_)
  · have hb3 : b = 3 := u8_lit (n := 3) e3 (by omega)
    subst hb3
    have eo : oneP (3 :: r) = ((unE r [] 1).1, textV (unE r [] 1), (unE r [] 1).2.2) := by rw [oneP, if_neg (by decide), if_neg (by decide), if_pos rfl]
    rw [eo]
    (repeat with_reducible first|refine z_b ?_)
    refine (Text96 (3 :: r) w1 hs (by simp)).mono ?_
    rintro _ w2 ⟨rfl, hb2⟩
    have ed : (3 :: r).drop 1 = r := rfl
    rw [ed]
    (repeat with_reducible first|refine z_A ?_|refine z_B ?_|refine z_C ?_)
    exact tell _ w2 hb2 (fun x w' => _ ∧ _) fun w' h => ⟨rfl, h⟩
  have hb3 : b ≠ 3 := u8_ne (n := 3) e3 (by omega)
  have eo : oneP (b :: r) = (3, zeroV, 0) := by rw [oneP, if_neg hb, if_neg hb2, if_neg hb3]
  rw [eo]
  (repeat with_reducible first|refine z_c ?_)
  refine ldA aggVal hB1 (by rw [szVal]; rfl) ?_
  exact tell zeroV w1 hr (fun x w' => _ ∧ _) fun w' h => ⟨rfl, h⟩
end Go.Proofs.YtmnaggdhkggjhaaGreatDoor.E.Pl
namespace Go.Proofs.YtmnaggdhkggjhaaGreatDoor.E.Pl
open Go Go.RowKit
set_option linter.unusedSimpArgs false
set_option linter.unusedVariables false

/-- append(v, x) in a region that draws (as PmA's). -/
theorem apOneT {P : Program} {S : World → Prop} {K : (World → Prop) → Value → World → Prop} {w : World} {t ty e : TypeId} {cs : Array Bool} {z : Value} {size bytes : Nat} (ht : P.underlying t = some (.slice e)) (hinfo : (P.info? e).map (fun i => (i.zero, i.size, i.bytes)) = some (some z, size, bytes)) (hz : z.cells.size = size) (hsz : 0 < size)
    {v : Value} {xs : List Value} {n : Nat} (hown : w.ownsRow 0 e size v n xs) {us : List Value} (hl : us.length = size) (h1 : ∀ u ∈ us, u.oneCell' = true) (h63 : n + 1 ≤ 9223372036854775807) (hbytes : (n + 1) * bytes ≤ 140737488355328)
    (hb : (Instr.buildSlice t 1 #[(0, .agg us.toArray)]).run P w = .ok (.slice (some ⟨w.heap.size, 0, none⟩) 1 1) (w.alloc (.cells us.toArray e)))
    (hS : ∀ w', Below w.heap.size w w' → S w')
    (k : ∀ v' w', w'.ownsRow 0 e size v' (n + 1) (xs ++ us) → (v'.ownBlock = v.ownBlock ∨ ∃ b, v'.ownBlock = some b ∧ w.heap.size ≤ b) → Turns (fun j => v.ownBlock = some j) w w' → ∃ S' : World → Prop, S' w' ∧ (∀ x, S' x → S x) ∧ K S' v' w') :
    ActP S (fun K w => LiftP P (Instr.buildSlice t 1 #[(0, .agg us.toArray)]) K w) (fun S u w => ActP S (fun K w => NextP P (builtin .append #[t, t] ty cs #[v, u]) K w) K w) w := by
  refine act (lift hb ?_)
  have hB := Blk.new w e us.toArray
  have ha := (Below.refl w.heap.size w).alloc (Nat.le_refl _) (.cells us.toArray e)
  have hs := ha.size
  refine ⟨S, hS _ ha, fun _ h => h, act ?_⟩
  refine apGb ht hinfo hz hsz (ownsRow_turns hown (Turns.of_below (F := fun _ => False) ha) (fun _ _ h => h)) (a := ⟨w.heap.size, 0, none⟩) (m := 1) (c := 1) (news := us) (by rw [hl, Nat.one_mul]) (fun j u hu => by
    rw [add0, Nat.zero_add, hB.cell j]
    simpa using hu) h1 h63 hbytes ?_
  intro v' w' ho hbl hT
  exact k v' w' ho (hbl.imp id fun h => ⟨_, h, hs⟩) ((Turns.of_below ha).trans (hT.mono fun j _ e => .inl e))
theorem unE_le : ∀ (n : Nat) (l acc : List UInt8) (k : Nat), l.length ≤ n → (unE l acc k).1 = 0 → k + 2 ≤ (unE l acc k).2.2 ∧ (unE l acc k).2.2 ≤ k + l.length ∧ (unE l acc k).2.1.length ≤ 32
  | 0, l, acc, k, hn, h => by rw [unE_short (by omega)] at h; cases h
  | n + 1, l, acc, k, hn, h => by
    match l, hn, h with
    | [], _, h => rw [unE] at h; cases h
    | [b], _, h => rw [unE] at h; cases h
    | b :: c :: r, hn, h =>
      rw [unE] at h ⊢
      by_cases h0 : b ≠ 0
      · rw [if_pos h0] at h ⊢
        have := unE_le n (c :: r) (acc ++ [b]) (k + 1) (by simp at hn ⊢; omega) h
        simp only [List.length_cons] at this ⊢
        omega
      rw [if_neg h0] at h ⊢
      by_cases h1 : c = 0
      · rw [if_pos h1] at h ⊢
        by_cases h2 : 32 < acc.length
        · rw [if_pos h2] at h; cases h
        · rw [if_neg h2]
          simp only [List.length_cons]
          omega
      rw [if_neg h1] at h ⊢
      by_cases h2 : c = 255
      · rw [if_pos h2] at h ⊢
        have := unE_le n r (acc ++ [0]) (k + 2) (by simp at hn ⊢; omega) h
        simp only [List.length_cons]
        omega
      · rw [if_neg h2] at h; cases h
/-- What is read is a value that may be; it has bytes. -/
theorem oneP_good {s : List UInt8} (h : (oneP s).1 = 0) : 1 ≤ (oneP s).2.2 ∧ (oneP s).2.2 ≤ s.length ∧ goodV (oneP s).2.1 = true ∧ valOk (oneP s).2.1 := by
  have hz : goodV zeroV = true ∧ valOk zeroV := by
    refine ⟨by decide, ?_, ?_, ?_⟩ <;> decide
  cases s with
  | nil => rw [oneP] at h; cases h
  | cons b r =>
    rw [oneP] at h ⊢
    by_cases h1 : b = 1
    · rw [if_pos h1]
      exact ⟨by simp, by simp, hz.1, hz.2⟩
    rw [if_neg h1] at h ⊢
    by_cases h2 : b = 2
    · rw [if_pos h2] at h ⊢
      by_cases h3 : r.length < 8
      · rw [if_pos h3] at h; cases h
      · rw [if_neg h3]
        have hl : (r.take 8).length = 8 := by rw [List.length_take]; omega
        have hd := dec8_lt 8 _ hl
        have hp : 256 ^ 8 = 18446744073709551616 := by decide
        refine ⟨by simp, by simp; omega, by simp [goodV], (by decide : (Lit.int .i64 1).wf = true), ?_, (by decide : (⟨#[]⟩ : ByteArray).size ≤ maxLen)⟩
        simp [Lit.wf, IntKind.min, IntKind.max, IntKind.signed, IntKind.bits]
        omega
    rw [if_neg h2] at h ⊢
    by_cases h3 : b = 3
    · rw [if_pos h3] at h ⊢
      have hu := unE_le r.length r [] 1 (Nat.le_refl _) h
      have ht : textV (unE r [] 1) = (2, 0, ⟨(unE r [] 1).2.1.toArray⟩, ()) := by unfold textV; rw [if_pos h]
      have hsz : (⟨(unE r [] 1).2.1.toArray⟩ : ByteArray).size = (unE r [] 1).2.1.length := tsz _
      refine ⟨by simp only; omega, by simp only [List.length_cons]; omega, ?_, ?_⟩
      · simp only [ht, goodV, hsz]
        rw [decide_eq_true]
        exact .inr (.inr ⟨trivial, trivial, hu.2.2⟩)
      · simp only [ht]
        exact ⟨(by decide : (Lit.int .i64 2).wf = true), (by decide : (Lit.int .i64 0).wf = true), by simp only [hsz, maxLen]; omega⟩
    · rw [if_neg h3] at h; cases h
/-- The values that a text begins with: error, values, what is left. -/
def cutF : Nat → List UInt8 → List ValT → Nat × List ValT × List UInt8
  | _, [], l => (0, l, [])
  | 0, b :: r, l => if b = 0 then (0, l, b :: r) else (4, [], [])
  | k + 1, b :: r, l => if b = 0 then (0, l, b :: r) else if (oneP (b :: r)).1 ≠ 0 then ((oneP (b :: r)).1, [], []) else cutF k ((b :: r).drop (oneP (b :: r)).2.2) (l ++ [(oneP (b :: r)).2.1])
theorem cutF_good : ∀ (k : Nat) (s : List UInt8) (l : List ValT), l.length + k = 4 → (∀ x ∈ l, goodV x = true ∧ valOk x) → (cutF k s l).2.1.length ≤ 4 ∧ (∀ x ∈ (cutF k s l).2.1, goodV x = true ∧ valOk x) := by
  intro k
  induction k with
  | zero =>
    intro s l hl hg
    cases s with
    | nil => rw [cutF]; exact ⟨by simp only; omega, hg⟩
    | cons b r =>
      rw [cutF]
      split
      · exact ⟨by simp only; omega, hg⟩
      · exact ⟨by simp, by simp⟩
  | succ k ih =>
    intro s l hl hg
    cases s with
    | nil => rw [cutF]; exact ⟨by simp only; omega, hg⟩
    | cons b r =>
      rw [cutF]
      split
      · exact ⟨by simp only; omega, hg⟩
      · split
        · exact ⟨by simp, by simp⟩
        · rename_i h1 h2
          have ho := oneP_good (s := b :: r) (by simpa using h2)
          refine ih _ _ (by simp; omega) fun x hx => ?_
          rcases List.mem_append.1 hx with hx | hx
          · exact hg x hx
          · rw [List.mem_singleton.1 hx]; exact ho.2.2
/-- The values that a text is. -/
def valsP (s : List UInt8) : Nat × List ValT :=
  let c := cutF 4 s []
  if c.1 ≠ 0 then (c.1, []) else if c.2.2 ≠ [] then (3, []) else (0, c.2.1)
def unpackP (s : List UInt8) : Nat × List ValT :=
  let c := valsP s
  if c.1 ≠ 0 then (c.1, []) else if c.2 = [] then (3, []) else (0, c.2)
theorem valsP_good (s : List UInt8) : (valsP s).2.length ≤ 4 ∧ (∀ x ∈ (valsP s).2, goodV x = true ∧ valOk x) := by
  have := cutF_good 4 s [] rfl (by simp)
  unfold valsP
  simp only
  split
  · simp
  · split
    · simp
    · exact this
theorem unpackP_good (s : List UInt8) : (unpackP s).2.length ≤ 4 ∧ (∀ x ∈ (unpackP s).2, goodV x = true ∧ valOk x) ∧ ((unpackP s).1 = 0 → (unpackP s).2 ≠ []) := by
  have := valsP_good s
  unfold unpackP
  simp only
  split
  · rename_i h
    exact ⟨by simp, by simp, fun e => absurd e h⟩
  · split
    · exact ⟨by simp, by simp, fun e => (by cases e)⟩
    · rename_i h
      exact ⟨this.1, this.2, fun _ => h⟩
end Go.Proofs.YtmnaggdhkggjhaaGreatDoor.E.Pl
