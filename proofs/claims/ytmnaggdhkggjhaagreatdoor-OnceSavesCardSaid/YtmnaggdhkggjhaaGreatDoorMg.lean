import Derived.Test.YtmnaggdhkggjhaaGreatDoorMf
import Derived.Shelf.Strings.Replace
import Derived.Shelf.Strings.BuilderK
import Derived.Test.YtmnaggdhkggjhaaGreatDoorProg
import Derived.Test.YtmnaggdhkggjhaaGreatDoorMe
import Derived.Lib.ConvBytes
import Derived.Laws.Concat
import Derived.Laws.Strings2
import Derived.Laws.Strings3
namespace Go.Proofs.YtmnaggdhkggjhaaGreatDoor.E.Pl
open Go Go.RowKit
set_option linter.unusedSimpArgs false
set_option linter.unusedVariables false

section
variable {P : Program} {K : Value → World → Prop} {w : World}
/-- A slice literal of one-cell values. -/
theorem bsO {t e : TypeId} {n : Nat} {parts : Array (Nat × Value)} {xs : List Value} (hb : (Instr.buildSlice t n parts).run P w = .ok (.slice (some ⟨w.heap.size, 0, none⟩) n n) (w.alloc (.cells xs.toArray e))) (hl : xs.length = n) (hn : n ≤ 1000)
    (k : ∀ v' w', Own e w' v' xs → Fresh w.heap.size v' → Below w.heap.size w w' → K v' w') : LiftP P (Instr.buildSlice t n parts) K w := by
  subst hl
  exact lift hb (k _ _ (Own.new w e xs (by omega)) (Fresh.new (Nat.le_refl _) _ _) ((Below.refl _ _).alloc (Nat.le_refl _) _))
end
theorem bE2 (w : World) (a b : Int) : (Instr.buildSlice 112 2 #[(0, .int .i64 a), (1, .int .i64 b)]).run Tryz.prog w = .ok (.slice (some ⟨w.heap.size, 0, none⟩) 2 2) (w.alloc (.cells #[.int .i64 a, .int .i64 b] 34)) := by kernel_rfl
end Go.Proofs.YtmnaggdhkggjhaaGreatDoor.E.Pl
namespace Go.Proofs.YtmnaggdhkggjhaaGreatDoor.E
open Go Go.Proofs Go.Shelf

def repAll_ren : Go.Shelf.Ren := ⟨fun | 155 => 86 | 154 => 95 | 138 => 98 | 165 => 99 | 143 => 100 | 166 => 101 | 197 => 102 | 169 => 103 | 195 => 106 | 218 => 107 | 240 => 108 | 241 => 109 | 219 => 110 | 260 => 111 | 276 => 112 | 277 => 113 | 217 => 114 | 225 => 115 | 224 => 116 | 267 => 117 | 266 => 118 | 314 => 119 | n => n, fun | 9 => 9 | 3 => 3 | 4 => 4 | 72 => 157 | 0 => 0 | 76 => 161 | 105 => 163 | 21 => 21 | 5 => 5 | 70 => 155 | 20 => 20 | 37 => 69 | 75 => 160 | 127 => 169 | 164 => 170 | 46 => 105 | 119 => 172 | 139 => 175 | 138 => 174 | 146 => 176 | 51 => 136 | 80 => 45 | n => n, fun | 1 => 0 | 3 => 1 | 4 => 2 | n => n⟩
theorem repAll : Go.Proofs.Lays.n155 Tryz.prog repAll_ren := {
  mixed := by kernel_rfl
  f138 := Tryz.func98.trans (congrArg some (by kernel_rfl))
  f143 := Tryz.func100.trans (congrArg some (by kernel_rfl))
  f154 := Tryz.func95.trans (congrArg some (by kernel_rfl))
  f155 := Tryz.func86.trans (congrArg some (by kernel_rfl))
  f165 := Tryz.func99.trans (congrArg some (by kernel_rfl))
  f166 := Tryz.func101.trans (congrArg some (by kernel_rfl))
  f169 := Tryz.func103.trans (congrArg some (by kernel_rfl))
  f195 := Tryz.func106.trans (congrArg some (by kernel_rfl))
  f197 := Tryz.func102.trans (congrArg some (by kernel_rfl))
  f217 := Tryz.func114.trans (congrArg some (by kernel_rfl))
  f218 := Tryz.func107.trans (congrArg some (by kernel_rfl))
  f219 := Tryz.func110.trans (congrArg some (by kernel_rfl))
  f224 := Tryz.func116.trans (congrArg some (by kernel_rfl))
  f225 := Tryz.func115.trans (congrArg some (by kernel_rfl))
  f240 := Tryz.func108.trans (congrArg some (by kernel_rfl))
  f241 := Tryz.func109.trans (congrArg some (by kernel_rfl))
  f260 := Tryz.func111.trans (congrArg some (by kernel_rfl))
  f266 := Tryz.func118.trans (congrArg some (by kernel_rfl))
  f267 := Tryz.func117.trans (congrArg some (by kernel_rfl))
  f276 := Tryz.func112.trans (congrArg some (by kernel_rfl))
  f277 := Tryz.func113.trans (congrArg some (by kernel_rfl))
  f314 := Tryz.func119.trans (congrArg some (by kernel_rfl))
  t0 := Tryz.underlying0
  a0 := Tryz.isAgg0
  z0 := Tryz.sizeOf0
  v0 := Tryz.zeroValue0
  t3 := Tryz.underlying3
  a3 := Tryz.isAgg3
  z3 := Tryz.sizeOf3
  v3 := Tryz.zeroValue3
  t4 := Tryz.underlying4
  a4 := Tryz.isAgg4
  z4 := Tryz.sizeOf4
  v4 := Tryz.zeroValue4
  t5 := Tryz.underlying5
  a5 := Tryz.isAgg5
  z5 := Tryz.sizeOf5
  v5 := Tryz.zeroValue5
  t9 := Tryz.underlying9
  a9 := Tryz.isAgg9
  z9 := Tryz.sizeOf9
  v9 := Tryz.zeroValue9
  t20 := Tryz.underlying20
  a20 := Tryz.isAgg20
  z20 := Tryz.sizeOf20
  v20 := Tryz.zeroValue20
  t21 := Tryz.underlying21
  a21 := Tryz.isAgg21
  z21 := Tryz.sizeOf21
  v21 := Tryz.zeroValue21
  t37 := Tryz.underlying69
  a37 := Tryz.isAgg69
  z37 := Tryz.sizeOf69
  v37 := Tryz.zeroValue69
  t46 := Tryz.underlying105
  a46 := Tryz.isAgg105
  z46 := Tryz.sizeOf105
  v46 := Tryz.zeroValue105
  t51 := Tryz.underlying136
  a51 := Tryz.isAgg136
  z51 := Tryz.sizeOf136
  v51 := Tryz.zeroValue136
  t70 := Tryz.underlying155
  a70 := Tryz.isAgg155
  z70 := Tryz.sizeOf155
  v70 := Tryz.zeroValue155
  t72 := Tryz.underlying157
  a72 := Tryz.isAgg157
  z72 := Tryz.sizeOf157
  v72 := Tryz.zeroValue157
  t75 := Tryz.underlying160
  a75 := Tryz.isAgg160
  z75 := Tryz.sizeOf160
  v75 := Tryz.zeroValue160
  t76 := Tryz.underlying161
  a76 := Tryz.isAgg161
  z76 := Tryz.sizeOf161
  v76 := Tryz.zeroValue161
  t105 := Tryz.underlying163
  a105 := Tryz.isAgg163
  z105 := Tryz.sizeOf163
  v105 := Tryz.zeroValue163
  t119 := Tryz.underlying172
  a119 := Tryz.isAgg172
  z119 := Tryz.sizeOf172
  t127 := Tryz.underlying169
  a127 := Tryz.isAgg169
  z127 := Tryz.sizeOf169
  v127 := Tryz.zeroValue169
  t138 := Tryz.underlying174
  a138 := Tryz.isAgg174
  z138 := Tryz.sizeOf174
  v138 := Tryz.zeroValue174
  t139 := Tryz.underlying175
  a139 := Tryz.isAgg175
  z139 := Tryz.sizeOf175
  v139 := Tryz.zeroValue175
  t146 := Tryz.underlying176
  a146 := Tryz.isAgg176
  z146 := Tryz.sizeOf176
  v146 := Tryz.zeroValue176
  t164 := Tryz.underlying170
  a164 := Tryz.isAgg170
  z164 := Tryz.sizeOf170
  v164 := Tryz.zeroValue170
  g1 := by kernel_rfl
  g3 := by kernel_rfl
  g4 := by kernel_rfl }
theorem repX : Builder.Extra Tryz.prog repAll_ren := {
  sizeBuilder := by kernel_rfl
  liesBuilder := by kernel_rfl
  t5 := Tryz.underlying5
  a5 := Tryz.isAgg5
  z5 := Tryz.sizeOf5
  v5 := Tryz.zeroValue5
  infoByte := by kernel_rfl
  cellsByte := by kernel_rfl
  sizeByte := by kernel_rfl
  neB5 := by decide }
end Go.Proofs.YtmnaggdhkggjhaaGreatDoor.E
namespace Go.Proofs.YtmnaggdhkggjhaaGreatDoor.E.Pl
open Go Go.RowKit
set_option linter.unusedSimpArgs false
set_option linter.unusedVariables false

def escB (b : UInt8) : List UInt8 := if b = 0 then [0, 255] else [b]
def esc (t : List UInt8) : List UInt8 := t.flatMap escB
def be8 (n : Nat) : List UInt8 := (List.range 8).map fun i => UInt8.ofNat (n / 2 ^ (56 - 8 * i))
def numU (n : Int) : Nat := (n + 9223372036854775808).toNat
def encV (x : ValT) : List UInt8 := if x.1 = 1 then 2 :: be8 (numU x.2.1) else if x.1 = 2 then 3 :: (esc x.2.2.1.data.toList ++ [0, 0]) else [1]
def encVs (l : List ValT) : List UInt8 := l.flatMap encV
theorem esc_cons (b : UInt8) (t : List UInt8) : esc (b :: t) = escB b ++ esc t := rfl
theorem escB_length (b : UInt8) : (escB b).length ≤ 2 := by unfold escB; split <;> simp
theorem esc_length (t : List UInt8) : (esc t).length ≤ 2 * t.length := by
  induction t with
  | nil => simp [esc]
  | cons b t ih =>
    rw [esc_cons, List.length_append, List.length_cons]
    have := escB_length b
    omega
theorem be8_length (n : Nat) : (be8 n).length = 8 := by simp [be8]
theorem encV_length {x : ValT} (h : goodV x = true) : (encV x).length ≤ 67 := by
  unfold encV
  unfold goodV at h
  rw [decide_eq_true_iff] at h
  split
  · rw [List.length_cons, be8_length]; omega
  · split
    · rename_i h1 h2
      rcases h with h | h | h
      · omega
      · omega
      · have := esc_length x.2.2.1.data.toList
        have e : x.2.2.1.data.toList.length = x.2.2.1.size := rfl
        simp only [List.length_cons, List.length_append, List.length_nil]
        omega
    · simp
theorem encVs_length {l : List ValT} (h : l.all goodV = true) : (encVs l).length ≤ 67 * l.length := by
  induction l with
  | nil => simp [encVs]
  | cons x r ih =>
    rw [List.all_cons, Bool.and_eq_true] at h
    have h1 := encV_length h.1
    have h2 := ih h.2
    have e : encVs (x :: r) = encV x ++ encVs r := rfl
    rw [e, List.length_append, List.length_cons]
    omega
theorem rep_esc (s : List UInt8) : Lib.replaceK [0] [0, 255] (Lib.count s [0]) s = esc s := by
  induction s with
  | nil => rfl
  | cons b l ih =>
    have hne : ([0] : List UInt8) ≠ [] := by simp
    have hi : Lib.index (b :: l) [0] = if ([0] : List UInt8).isPrefixOf (b :: l) then 0 else if Lib.index l [0] == -1 then -1 else Lib.index l [0] + 1 := by
      rw [Lib.index]
    by_cases hb : b = 0
    · subst hb
      have h0 : Lib.index (0 :: l) [0] = ((0 : Nat) : Int) := by rw [hi]; rfl
      rw [Lib.count_hit hne h0, Nat.add_comm, Lib.replaceK_hit _ _ _ _ 0 h0]
      show [0, 255] ++ Lib.replaceK [0] [0, 255] (Lib.count l [0]) l = _
      rw [ih, esc_cons]
      rfl
    · have hp : ([0] : List UInt8).isPrefixOf (b :: l) = false := by
        simp [List.isPrefixOf]
        exact fun e => hb e.symm
      rw [hp, if_neg (by simp)] at hi
      have he : esc (b :: l) = b :: esc l := by rw [esc_cons, escB, if_neg hb]; rfl
      by_cases hm : Lib.index l [0] = -1
      · rw [hm] at hi
        have hi' : Lib.index (b :: l) [0] = -1 := hi
        rw [Lib.count_miss hi', he, ← ih, Lib.count_miss hm]
        rfl
      · have hge := Lib.index_ge l [0]
        obtain ⟨j, hj⟩ : ∃ j : Nat, Lib.index l [0] = j := ⟨(Lib.index l [0]).toNat, by omega⟩
        have hi' : Lib.index (b :: l) [0] = ((j + 1 : Nat) : Int) := by
          rw [hi, if_neg (by simpa using hm), hj]; omega
        have hc : Lib.count (b :: l) [0] = 1 + Lib.count (l.drop (j + 1)) [0] := by
          rw [Lib.count_hit hne hi']; rfl
        have hc' : Lib.count l [0] = 1 + Lib.count (l.drop (j + 1)) [0] := by
          rw [Lib.count_hit hne hj]; rfl
        rw [hc, Nat.add_comm, Lib.replaceK_hit _ _ _ _ (j + 1) hi', he, ← ih, hc', Nat.add_comm 1, Lib.replaceK_hit _ _ _ _ j hj]
        rfl
theorem repAll_esc (s : List UInt8) : Lib.replaceAll s [0] [0, 255] = esc s := by
  unfold Lib.replaceAll Lib.replace
  rw [if_neg (by simp)]
  unfold Lib.replaceNum
  rw [if_pos (by omega)]
  exact rep_esc s
theorem count_le_len (s : List UInt8) : Lib.count s [0] ≤ s.length := by
  have := Lib.countB_le ⟨#[0]⟩ (by decide) s.length ⟨s.toArray⟩ (by simp [ByteArray.size])
  simpa [Lib.countB, ByteArray.size] using this
/-- The largest length that strings' Index looks for byte by byte: any number. -/
def GMx (w : World) : Prop := ∃ m : Int, w.cell? ⟨0, 0, none⟩ = some (.int .i64 m)
theorem GMx.pos {w : World} (h : GMx w) : 0 < w.heap.size := by
  obtain ⟨m, h⟩ := h
  exact World.block_lt_of_cell? _ _ h
theorem GMx.below {w w' : World} (h : GMx w) (hb : Below w.heap.size w w') : GMx w' := by
  have hp := h.pos
  obtain ⟨m, h⟩ := h
  exact ⟨m, (hb.cell hp).trans h⟩
theorem replace_spec (s : ByteArray) (w : World) (hm : GMx w) (hs : s.size ≤ 1000) : CallP Tryz.prog 86 #[.string s, .string ⟨#[0]⟩, .string ⟨#[0, 255]⟩] (fun r w' => r = .string ⟨(esc s.data.toList).toArray⟩ ∧ Below w.heap.size w w') w := by
  obtain ⟨m, hm⟩ := hm
  refine ⟨(Any.strings_ReplaceAll repAll repX s ⟨#[0]⟩ ⟨#[0, 255]⟩ m w (by omega) hm (by decide) ?_).mono ?_⟩
  · have h1 := count_le_len s.data.toList
    have e : s.data.toList.length = s.size := rfl
    have e2 : Lib.countB s ⟨#[0]⟩ = Lib.count s.data.toList [0] := rfl
    have e3 : (ByteArray.mk #[0, 255]).size = 2 := rfl
    rw [e2, e3]
    omega
  · rintro e w' ⟨rfl, hb⟩
    have := repAll_esc s.data.toList
    exact ⟨_, rfl, by
      show Value.string ⟨(Lib.replaceAll s.data.toList [0] [0, 255]).toArray⟩ = _
      rw [this], hb⟩
end Go.Proofs.YtmnaggdhkggjhaaGreatDoor.E.Pl
namespace Go.Proofs.YtmnaggdhkggjhaaGreatDoor.E.Pl
open Go Go.RowKit
set_option linter.unusedSimpArgs false
set_option linter.unusedVariables false

theorem undBy : Tryz.prog.underlying 69 = some (.slice 5) := by kernel_rfl
theorem und64 : Tryz.prog.underlying 138 = some (.int .u64) := by kernel_rfl
theorem inf5 : (Tryz.prog.info? 5).map (fun i => (i.zero, i.size, i.bytes)) = some (some (.int .u8 0), 1, 1) := by kernel_rfl
theorem wrap_u8 (n : Nat) : IntKind.u8.wrap (n : Int) = ((UInt8.ofNat n).toNat : Int) := by
  rw [UInt8.toNat_ofNat']
  simp [IntKind.wrap, IntKind.signed, IntKind.bits]
theorem wrap_u64 (n : Int) : IntKind.u64.wrap n = n % 18446744073709551616 := by
  simp [IntKind.wrap, IntKind.signed, IntKind.bits]
theorem xor_top (m : Nat) (h : m < 18446744073709551616) : m ^^^ 9223372036854775808 = (9223372036854775808 + m) % 18446744073709551616 := by
  have e : (9223372036854775808 : Nat) = 2 ^ 63 := rfl
  have e' : (18446744073709551616 : Nat) = 2 ^ 64 := rfl
  rw [e, e'] at *
  refine Nat.eq_of_testBit_eq fun j => ?_
  rw [Nat.testBit_xor, Nat.testBit_two_pow, Nat.testBit_mod_two_pow]
  rcases Nat.lt_trichotomy j 63 with hj | hj | hj
  · rw [Nat.testBit_two_pow_add_gt hj, decide_eq_false (by omega), decide_eq_true (by omega)]
    simp
  · subst hj
    rw [Nat.testBit_two_pow_add_eq]
    simp
  · rw [decide_eq_false (by omega), decide_eq_false (by omega), Nat.testBit_lt_two_pow (Nat.lt_of_lt_of_le h (Nat.pow_le_pow_right (n := 2) (i := 64) (by decide) (by omega)))]
    rfl
theorem numU_xor (n : Int) (h : -9223372036854775808 ≤ n ∧ n ≤ 9223372036854775807) : bits .xor .u64 (IntKind.u64.wrap n) 9223372036854775808 = (numU n : Int) := by
  rw [wrap_u64]
  obtain ⟨m, hm, hlt⟩ : ∃ m : Nat, n % 18446744073709551616 = m ∧ m < 18446744073709551616 := ⟨(n % 18446744073709551616).toNat, by omega, by omega⟩
  rw [hm]
  show IntKind.u64.wrap _ = _
  rw [wrap_u64]
  have e1 : BitVec.ofInt 64 (m : Int) = BitVec.ofNat 64 m := BitVec.ofInt_natCast 64 m
  have e2 : BitVec.ofInt 64 (9223372036854775808 : Int) = BitVec.ofNat 64 9223372036854775808 := by rfl
  have e3 : (BitVec.ofNat 64 m ^^^ BitVec.ofNat 64 9223372036854775808).toNat = m ^^^ 9223372036854775808 := by
    rw [BitVec.toNat_xor, BitVec.toNat_ofNat, BitVec.toNat_ofNat, Nat.mod_eq_of_lt hlt]
  show ((BitVec.ofInt IntKind.u64.bits (m : Int) ^^^ BitVec.ofInt IntKind.u64.bits (9223372036854775808 : Int)).toNat : Int) % 18446744073709551616 = _
  have e4 : IntKind.u64.bits = 64 := rfl
  rw [e4, e1, e2, e3, xor_top m hlt]
  unfold numU
  omega
theorem be8_take (n k : Nat) (hk : k < 8) : (be8 n).take (k + 1) = (be8 n).take k ++ [UInt8.ofNat (n / 2 ^ (56 - 8 * k))] := by
  have hl := be8_length n
  rw [List.take_succ_eq_append_getElem (by omega)]
  congr 2
  simp [be8]
section
variable {K : Value → World → Prop} {w0 w : World} {v : Value} {bs : List UInt8}
/-- A row of bytes that the call owns alone. -/
structure OwnBy (w0 w : World) (v : Value) (bs : List UInt8) : Prop where
  own : Own 5 w v (bs.map u8)
  fresh : Fresh w0.heap.size v
  bel : Below w0.heap.size w0 w
theorem bs1By {b : UInt8} {n : Int} (hn : n = (b.toNat : Int)) (hb : Below w0.heap.size w0 w) (k : ∀ v' w', OwnBy w0 w' v' [b] → K v' w') : LiftP Tryz.prog (Instr.buildSlice 69 1 #[(0, .int .u8 n)]) K w := by
  subst hn
  refine lift (v := .slice (some ⟨w.heap.size, 0, none⟩) 1 1) (w' := w.alloc (.cells #[.int .u8 (b.toNat : Int)] 5)) (by kernel_rfl) (k _ _ ⟨Own.new w 5 [.int .u8 (b.toNat : Int)] (by simp), Fresh.new hb.size _ _, hb.alloc hb.size _⟩)
theorem apBy {v x : Value} {bs ys : List UInt8} {w1 : World} (ho : OwnBy w0 w v bs) (hb : Below w.heap.size w w1) (hx : RdB w1 x ys) (hl : bs.length + ys.length ≤ 100000000)
    (k : ∀ v' w', OwnBy w0 w' v' (bs ++ ys) → K v' w') : NextP Tryz.prog (builtin .append #[69, 69] 69 #[false, false] #[v, x]) K w1 := by
  have hb1 := below_then ho.bel hb
  refine apF w0.heap.size undBy inf5 (by rfl) (by decide) (ho.own.below hb) ho.fresh hb1.size hx (u8_one _) (by simp only [List.length_map]; omega) ?_
  intro v' w' ho' hf' hb' _
  rw [← List.map_append] at ho'
  exact k v' w' ⟨ho', hf', hb1.trans hb'⟩
/-- append(v, b) -/
theorem ap1By {n : Int} {b : UInt8} (hn : n = (b.toNat : Int)) (ho : OwnBy w0 w v bs) (hl : bs.length ≤ 10000000)
    (k : ∀ v' w', OwnBy w0 w' v' (bs ++ [b]) → K v' w') : LiftP Tryz.prog (Instr.buildSlice 69 1 #[(0, .int .u8 n)]) (fun x w => NextP Tryz.prog (builtin .append #[69, 69] 69 #[false, false] #[v, x]) K w) w := by
  subst hn
  refine lift (v := .slice (some ⟨w.heap.size, 0, none⟩) 1 1) (w' := w.alloc (.cells #[.int .u8 (b.toNat : Int)] 5)) (by kernel_rfl) ?_
  exact apBy ho ((Below.refl _ _).alloc (Nat.le_refl _) _) (ys := [b]) (Own.new w 5 [.int .u8 (b.toNat : Int)] (by simp)).rd (by simp; omega) k
/-- append(v, 0, 0) -/
theorem ap00 (ho : OwnBy w0 w v bs) (hl : bs.length ≤ 10000000)
    (k : ∀ v' w', OwnBy w0 w' v' (bs ++ [0, 0]) → K v' w') : LiftP Tryz.prog (Instr.buildSlice 69 2 #[(0, .int .u8 0), (1, .int .u8 0)]) (fun x w => NextP Tryz.prog (builtin .append #[69, 69] 69 #[false, false] #[v, x]) K w) w := by
  refine lift (v := .slice (some ⟨w.heap.size, 0, none⟩) 2 2) (w' := w.alloc (.cells #[.int .u8 0, .int .u8 0] 5)) (by kernel_rfl) ?_
  exact apBy ho ((Below.refl _ _).alloc (Nat.le_refl _) _) (ys := [0, 0]) (Own.new w 5 [.int .u8 0, .int .u8 0] (by simp)).rd (by simp; omega) k
/-- append(v, text...) -/
theorem apSBy {s : ByteArray} {w1 : World} (ho : OwnBy w0 w v bs) (hb : Below w.heap.size w w1) (hl : bs.length + s.size ≤ 100000000)
    (k : ∀ v' w', OwnBy w0 w' v' (bs ++ s.data.toList) → K v' w') : NextP Tryz.prog (builtin .append #[69, 9] 69 #[false, false] #[v, .string s]) K w1 := by
  have hb1 := below_then ho.bel hb
  obtain ⟨i, hi, hzz⟩ := Option.map_eq_some_iff.1 inf5
  simp only [Prod.mk.injEq] at hzz
  obtain ⟨hz0, hz1, hz2⟩ := hzz
  have hbase : w1.ownsRow w0.heap.size 5 1 v (bs.map u8).length (bs.map u8) := by
    obtain ⟨h1, h2⟩ := ho.own.below hb
    refine ⟨h1, ?_⟩
    rcases h2 with h2 | ⟨g, cap, cur, rfl, _, h3⟩
    · exact .inl h2
    · exact .inr ⟨g, cap, cur, rfl, ho.fresh g rfl, h3⟩
  obtain ⟨v', w', hr, h2, h3, _⟩ := Lib.run_append_own_string (P := Tryz.prog) w1 w0.heap.size 69 9 69 5 i undBy und9 hi hz0 hz1 hz2 v (bs.map u8).length (bs.map u8) hbase s (by simp only [maxLen, List.length_map]; omega) (by rw [List.length_map]; omega) hb1.size
  refine nextV (v := v') (w' := w') ?_ (k v' w' ⟨?_, ?_, hb1.trans ((Below.refl w0.heap.size w1).grown h3 hb1.size (fun j hj => ho.fresh j hj))⟩)
  · simp only [builtin] at hr ⊢
    simp [hr]
  · have e1 : (bs ++ s.data.toList).map u8 = bs.map u8 ++ Lib.strCells s := by rw [List.map_append]; rfl
    have e2 : (bs.map u8 ++ Lib.strCells s).length = (bs.map u8).length + s.size := by rw [List.length_append, Lib.strCells_length]
    rw [e1, Own, e2]
    obtain ⟨h4, h5⟩ := h2
    refine ⟨h4, ?_⟩
    rcases h5 with h5 | ⟨g, cap, cur, rfl, _, h6⟩
    · exact .inl h5
    · exact .inr ⟨g, cap, cur, rfl, Nat.zero_le _, h6⟩
  · intro j hj
    rcases h2.2 with ⟨rfl, _⟩ | ⟨g, cap, cur, rfl, hg, _⟩
    · cases hj
    · cases hj; exact hg
end
theorem good_kind {k n : Int} {s : ByteArray} (h : goodV (k, n, s, ()) = true) : k = 0 ∨ k = 1 ∨ (k = 2 ∧ s.size ≤ 32) := by
  unfold goodV at h
  rw [decide_eq_true_iff] at h
  rcases h with h | h | h
  · exact .inl h.1
  · exact .inr (.inl h.1)
  · exact .inr (.inr ⟨h.1, h.2.2⟩)
theorem form_spec (x : ValT) (w : World) (hg : goodV x = true) (hn : -9223372036854775808 ≤ x.2.1 ∧ x.2.1 ≤ 9223372036854775807) (hm : GMx w) : CallP Tryz.prog 71 #[.agg (valF x).toArray] (fun r w' => OwnBy w w' r (encV x)) w := by
  obtain ⟨k, n, s, _⟩ := x
  refine ⟨S71.calls _ _ _ ?_⟩
  unfold S71
  refine bxB ?_
  intro g w1 hg1 hB hb
  have hk := good_kind hg
  have hr := Below.refl w1.heap.size w1
  have q0 : ∀ w', Below w1.heap.size w1 w' → w'.cell? ⟨g, 0, none⟩ = some (.int .i64 k) := fun w' h => (hB.below' h).cell 0
  have q1 : ∀ w', Below w1.heap.size w1 w' → w'.cell? ⟨g, 1, none⟩ = some (.int .i64 n) := fun w' h => (hB.below' h).cell 1
  have q2 : ∀ w', Below w1.heap.size w1 w' → w'.cell? ⟨g, 2, none⟩ = some (.string s) := fun w' h => (hB.below' h).cell 2
  (repeat with_reducible first|refine fd v0 (by decide) ?_|refine ld one3 (q0 _ hr) ?_|refine z_o (by omega) ?_)
  refine cv und3 und5 ?_
  obtain ⟨b, hbk, hwb⟩ : ∃ b : UInt8, (k = 0 ∧ b = 1 ∨ k = 1 ∧ b = 2 ∨ k = 2 ∧ b = 3) ∧ IntKind.u8.wrap (k + 1) = (b.toNat : Int) := by
    rcases hk with rfl | rfl | ⟨rfl, _⟩
    · exact ⟨1, .inl ⟨rfl, rfl⟩, by decide⟩
    · exact ⟨2, .inr (.inl ⟨rfl, rfl⟩), by decide⟩
    · exact ⟨3, .inr (.inr ⟨rfl, rfl⟩), by decide⟩
  refine bs1By (w0 := w1) hwb hr ?_
  intro r2 w2 ho2
  refine JoinP.cut (fun vs w' => ∃ v, vs = [v] ∧ OwnBy w1 w' v (encV (k, n, s, ()))) ?_ ?_
  · intro J hJ
    (repeat with_reducible first|refine fd v0 (by decide) ?_|refine ld one3 (q0 _ ho2.bel) ?_)
    refine bi_eql_c (fun h1 => ?_) (fun h1 => ?_)
    · have h1 : k = 1 := h1
      subst h1
      have hb2 : b = 2 := by rcases hbk with h | h | h <;> first | exact h.2 | (exfalso; omega)
      subst hb2
      (repeat with_reducible first|refine fd v1 (by decide) ?_|refine ld one3 (q1 _ ho2.bel) ?_|refine z_b ?_)
      refine cv und3 und64 ?_
      refine bi_xor ?_
      rw [numU_xor n hn]
      refine LoopP.inv2 (fun rv iv w' => ∃ i : Nat, i ≤ 8 ∧ iv = .int .i64 (56 - 8 * (i : Int)) ∧ OwnBy w1 w' rv (2 :: (be8 (numU n)).take i)) (fun _ iv _ => (intOf iv + 8).toNat) ⟨0, by omega, rfl, ho2⟩ ?_
      rintro rv _ w3 ⟨i, hi, rfl, ho3⟩ J' hJ'
      dsimp only [List.headD_cons, List.tail_cons]
      refine bi_geq_c (fun h2 => ?_) (fun h2 => ?_)
      · (repeat with_reducible first|refine z_b ?_)
        refine bi_shr (by omega) (by simp [IntKind.bits]; omega) ?_
        refine cv und64 und5 ?_
        have e1 : ((numU n : Int) / 2 ^ (56 - 8 * (i : Int)).toNat) = ((numU n / 2 ^ (56 - 8 * i) : Nat) : Int) := by
          rw [show (56 - 8 * (i : Int)).toNat = 56 - 8 * i by omega]
          push_cast; rfl
        rw [e1]
        refine ap1By (wrap_u8 _) ho3 (by have := be8_length (numU n); rw [List.length_cons, List.length_take]; omega) ?_
        intro v4 w4 ho4
        (repeat with_reducible first|refine z_p (by omega) ?_)
        refine hJ' _ _ _ ⟨i + 1, by omega, by congr 1; omega, ?_⟩ (by simp [intOf]; omega)
        rw [be8_take _ _ (by omega)]
        exact ho4
      · (repeat with_reducible first|refine z_c ?_)
        refine hJ _ _ ⟨_, rfl, ?_⟩
        have : i = 8 := by omega
        subst this
        have e : (be8 (numU n)).take 8 = be8 (numU n) := List.take_of_length_le (by rw [be8_length]; omega)
        rw [e] at ho3
        exact ho3
    (repeat with_reducible first|refine z_c ?_)
    refine bi_eql_c (fun h2 => ?_) (fun h2 => ?_)
    · have h2 : k = 2 := h2
      subst h2
      have hb2 : b = 3 := by rcases hbk with h | h | h <;> first | exact h.2 | (exfalso; omega)
      subst hb2
      have hs : s.size ≤ 32 := by rcases hk with h | h | h <;> first | exact h.2 | (exfalso; omega)
      (repeat with_reducible first|refine fd v2 (by decide) ?_|refine ld one9 (q2 _ ho2.bel) ?_|refine z_b ?_)
      refine (replace_spec s w2 ((hm.below hb).below ho2.bel) (by omega)).mono ?_
      rintro _ w3 ⟨rfl, hb3⟩
      have hel : (esc s.data.toList).length ≤ 64 := by
        have := esc_length s.data.toList
        have e : s.data.toList.length = s.size := rfl
        omega
      refine apSBy ho2 hb3 (by show _ + (esc s.data.toList).toArray.size ≤ _; simp; omega) ?_
      intro v4 w4 ho4
      refine ap00 ho4 (by simp; omega) ?_
      intro v5 w5 ho5
      refine hJ _ _ ⟨_, rfl, ?_⟩
      have e : encV (2, n, s, ()) = [3] ++ (esc s.data.toList).toArray.toList ++ [0, 0] := by simp [encV]
      rw [e]
      exact ho5
    · have hk0 : k = 0 := by rcases hk with h | h | h <;> first | exact h | exact absurd h h1 | exact absurd h.1 h2
      subst hk0
      have hb2 : b = 1 := by rcases hbk with h | h | h <;> first | exact h.2 | (exfalso; omega)
      subst hb2
      (repeat with_reducible first|refine z_c ?_)
      exact hJ _ _ ⟨_, rfl, ho2⟩
  · rintro _ w3 ⟨v, rfl, ho⟩
    exact ⟨ho.own, fun k hk => Nat.le_trans hb.size (ho.fresh k hk), below_then hb ho.bel⟩
end Go.Proofs.YtmnaggdhkggjhaaGreatDoor.E.Pl
namespace Go.Proofs.YtmnaggdhkggjhaaGreatDoor.E.Pl
open Go Go.RowKit
set_option linter.unusedSimpArgs false
set_option linter.unusedVariables false

section
variable {P : Program} {K : Value → World → Prop} {w : World}
/-- A struct copied into a box of the call's own. -/
theorem cpB {t : TypeId} {z cells : Array Value} (hz : (P.info? t).bind (·.zero) = some (.agg z)) (hi : (P.info? t).map (·.size) = some cells.size) (ho : z.size = cells.size) (h1 : cells.all (·.oneCell') = true)
    (k : ∀ g w', g = w.heap.size → Blk w' g t cells → Below w.heap.size w w' → K (.pointer (some ⟨g, 0, none⟩)) w') :
    LiftP P (Instr.alloc t true (.tuple #[])) (fun v w => LiftU P (Instr.storeAt t v (.agg cells)) (fun _ w => K v w) w) w := by
  refine alB hz ?_
  intro g w1 hg hB hb
  refine stB hB hi ho h1 ?_
  intro w2 hB2 ht
  exact k g w2 hg hB2 (below_own hb ht (by omega))
end
theorem valF_all (x : ValT) : (valF x).toArray.all (·.oneCell') = true := by
  rw [List.all_toArray, List.all_eq_true]
  exact valF_one x
/-- The text of a row of values and what is wrong with it. -/
def keyV (l : List ValT) : Value := .tuple #[.string ⟨(if rowE l = 0 then encVs l else []).toArray⟩, .int .i64 (rowE l)]
theorem rowE_0 {l : List ValT} : rowE l = 0 ↔ l.length ≤ 4 ∧ l.all goodV = true := by
  unfold rowE
  split
  · constructor
    · intro h; omega
    · rintro ⟨h, _⟩; omega
  · split
    · rename_i h1 h2
      exact ⟨fun _ => ⟨by omega, h2⟩, fun _ => rfl⟩
    · rename_i h1 h2
      exact ⟨fun h => by omega, fun h => absurd h.2 h2⟩
theorem encVs_snoc (l : List ValT) (k : Nat) (hk : k < l.length) : encVs (l.take (k + 1)) = encVs (l.take k) ++ encV l[k] := by
  unfold encVs
  rw [List.take_succ_eq_append_getElem hk, List.flatMap_append, List.flatMap_cons, List.flatMap_nil, List.append_nil]
theorem encVs_take {l : List ValT} (h : rowE l = 0) (k : Nat) : (encVs (l.take k)).length ≤ 268 := by
  obtain ⟨h1, h2⟩ := rowE_0.1 h
  have := encVs_length (l := l.take k) (by
    rw [List.all_eq_true] at h2 ⊢
    exact fun x hx => h2 x (List.mem_of_mem_take hx))
  rw [List.length_take] at this
  omega
theorem val_ok_num {x : ValT} (h : valOk x) : -9223372036854775808 ≤ x.2.1 ∧ x.2.1 ≤ 9223372036854775807 := wf_64 h.2.1
theorem Key64 (v : Value) (l : List ValT) (w : World) (hv : Vals w [v] l) (hm : GMx w) : CallP Tryz.prog 58 #[v] (fun r w' => r = keyV l ∧ Below w.heap.size w w') w := by
  have hok := vals_ok hv
  obtain ⟨A, c, rfl, hc, hmx⟩ := hv.slice
  refine ⟨S58.calls _ _ _ ?_⟩
  unfold S58
  refine (row_spec _ l w hv).mono ?_
  rintro _ w1 ⟨rfl, hb1⟩
  refine bi_neq_c (fun h0 => ?_) (fun h0 => ?_)
  · (repeat with_reducible first|refine z_b ?_)
    exact ⟨by unfold keyV; rw [if_neg h0], hb1⟩
  obtain ⟨hl4, hgood⟩ := rowE_0.1 h0
  (repeat with_reducible first|refine z_c ?_)
  refine ln undVs ?_
  refine LoopP.inv2 (fun rv iv w' => ∃ k : Nat, k ≤ l.length ∧ iv = .int .i64 k ∧ OwnBy w w' rv (encVs (l.take k))) (fun _ iv _ => l.length - (intOf iv).toNat) ⟨0, by omega, rfl, Own.nil _ _, Fresh.nil _, hb1⟩ ?_
  rintro rv _ w2 ⟨k, hk, rfl, ho2⟩ J hJ
  dsimp only [List.headD_cons, List.tail_cons]
  refine bi_lss_c (fun h => ?_) (fun h => ?_)
  · have hk' : k < l.length := by omega
    obtain ⟨a, us, rfl, hus, hcell, hrd⟩ := rRow.at (keeps_Vals _ _ _ _ ho2.bel hv) k hk'
    obtain ⟨rfl, _⟩ := val_cells hrd
    (repeat with_reducible first|refine z_b ?_)
    refine ixN undVs szVal k hk' ?_
    refine ldR aggVal hcell (by rw [szVal]; rfl) ?_
    refine cpB zVal (by rw [szVal]; rfl) (by rfl) (valF_all l[k]) ?_
    intro g w3 hg hB hb3
    refine ldA aggVal hB (by rw [szVal]; rfl) ?_
    refine (form_spec l[k] w3 (List.all_eq_true.1 hgood _ (List.getElem_mem hk')) (val_ok_num (hok _ (List.getElem_mem hk'))) ((hm.below ho2.bel).below hb3)).mono ?_
    intro v4 w4 ho4
    have hsz := encVs_take h0 k
    have hsz2 := encV_length (List.all_eq_true.1 hgood _ (List.getElem_mem hk'))
    refine apBy ho2 (below_then hb3 ho4.bel) ho4.own.rd (by omega) ?_
    intro v5 w5 ho5
    (repeat with_reducible first|refine z_o (by omega) ?_)
    refine hJ _ _ _ ⟨k + 1, by omega, by simp, ?_⟩ (by simp [intOf]; omega)
    rw [encVs_snoc l k hk']
    exact ho5
  · have : k = l.length := by omega
    subst this
    rw [List.take_length] at ho2
    (repeat with_reducible first|refine z_c ?_)
    refine cvBS undBy und5 und9 ho2.own.rd ?_
    exact ⟨by unfold keyV; rw [if_pos h0, h0], ho2.bel⟩
end Go.Proofs.YtmnaggdhkggjhaaGreatDoor.E.Pl
namespace Go.Proofs.YtmnaggdhkggjhaaGreatDoor.E
open Go Go.Proofs Go.Shelf

def bld_ren : Go.Shelf.Ren := ⟨fun | 167 => 104 | 170 => 105 | 155 => 86 | 154 => 95 | 138 => 98 | 165 => 99 | 143 => 100 | 166 => 101 | 197 => 102 | 169 => 103 | 195 => 106 | 218 => 107 | 240 => 108 | 241 => 109 | 219 => 110 | 260 => 111 | 276 => 112 | 277 => 113 | 217 => 114 | 225 => 115 | 224 => 116 | 267 => 117 | 266 => 118 | 314 => 119 | n => n, fun | 9 => 9 | 3 => 3 | 4 => 4 | 72 => 157 | 0 => 0 | 76 => 161 | 105 => 163 | 21 => 21 | 5 => 5 | 70 => 155 | 20 => 20 | 37 => 69 | 75 => 160 | 127 => 169 | 164 => 170 | 46 => 105 | 119 => 172 | 139 => 175 | 138 => 174 | 146 => 176 | 51 => 136 | 80 => 45 | n => n, fun | 1 => 0 | 3 => 1 | 4 => 2 | n => n⟩
theorem bldByte : Go.Proofs.Lays.n167 Tryz.prog bld_ren := {
  mixed := by kernel_rfl
  f167 := Tryz.func104.trans (congrArg some (by kernel_rfl))
  f240 := Tryz.func108.trans (congrArg some (by kernel_rfl))
  f276 := Tryz.func112.trans (congrArg some (by kernel_rfl))
  t0 := Tryz.underlying0
  a0 := Tryz.isAgg0
  z0 := Tryz.sizeOf0
  v0 := Tryz.zeroValue0
  t4 := Tryz.underlying4
  a4 := Tryz.isAgg4
  z4 := Tryz.sizeOf4
  v4 := Tryz.zeroValue4
  t5 := Tryz.underlying5
  a5 := Tryz.isAgg5
  z5 := Tryz.sizeOf5
  v5 := Tryz.zeroValue5
  t9 := Tryz.underlying9
  a9 := Tryz.isAgg9
  z9 := Tryz.sizeOf9
  v9 := Tryz.zeroValue9
  t20 := Tryz.underlying20
  a20 := Tryz.isAgg20
  z20 := Tryz.sizeOf20
  v20 := Tryz.zeroValue20
  t37 := Tryz.underlying69
  a37 := Tryz.isAgg69
  z37 := Tryz.sizeOf69
  v37 := Tryz.zeroValue69
  t70 := Tryz.underlying155
  a70 := Tryz.isAgg155
  z70 := Tryz.sizeOf155
  v70 := Tryz.zeroValue155
  t72 := Tryz.underlying157
  a72 := Tryz.isAgg157
  z72 := Tryz.sizeOf157
  v72 := Tryz.zeroValue157
  t75 := Tryz.underlying160
  a75 := Tryz.isAgg160
  z75 := Tryz.sizeOf160
  v75 := Tryz.zeroValue160
  t164 := Tryz.underlying170
  a164 := Tryz.isAgg170
  z164 := Tryz.sizeOf170
  v164 := Tryz.zeroValue170 }
theorem bldString : Go.Proofs.Lays.n169 Tryz.prog bld_ren := {
  mixed := by kernel_rfl
  f169 := Tryz.func103.trans (congrArg some (by kernel_rfl))
  t0 := Tryz.underlying0
  a0 := Tryz.isAgg0
  z0 := Tryz.sizeOf0
  v0 := Tryz.zeroValue0
  t3 := Tryz.underlying3
  a3 := Tryz.isAgg3
  z3 := Tryz.sizeOf3
  v3 := Tryz.zeroValue3
  t9 := Tryz.underlying9
  a9 := Tryz.isAgg9
  z9 := Tryz.sizeOf9
  v9 := Tryz.zeroValue9
  t37 := Tryz.underlying69
  a37 := Tryz.isAgg69
  z37 := Tryz.sizeOf69
  v37 := Tryz.zeroValue69
  t70 := Tryz.underlying155
  a70 := Tryz.isAgg155
  z70 := Tryz.sizeOf155
  v70 := Tryz.zeroValue155
  t72 := Tryz.underlying157
  a72 := Tryz.isAgg157
  z72 := Tryz.sizeOf157
  v72 := Tryz.zeroValue157
  t127 := Tryz.underlying169
  a127 := Tryz.isAgg169
  z127 := Tryz.sizeOf169
  v127 := Tryz.zeroValue169 }
theorem bldX : Builder.Extra Tryz.prog bld_ren := {
  sizeBuilder := by kernel_rfl
  liesBuilder := by kernel_rfl
  t5 := Tryz.underlying5
  a5 := Tryz.isAgg5
  z5 := Tryz.sizeOf5
  v5 := Tryz.zeroValue5
  infoByte := by kernel_rfl
  cellsByte := by kernel_rfl
  sizeByte := by kernel_rfl
  neB5 := by decide }
end Go.Proofs.YtmnaggdhkggjhaaGreatDoor.E
namespace Go.Proofs.YtmnaggdhkggjhaaGreatDoor.E
open Go Go.RowKit
set_option linter.unusedSimpArgs false
set_option linter.unusedVariables false

end Go.Proofs.YtmnaggdhkggjhaaGreatDoor.E
namespace Go.Proofs.YtmnaggdhkggjhaaGreatDoor.E
open Go Go.RowKit
set_option linter.unusedSimpArgs false
set_option linter.unusedVariables false

section
variable {P : Program} {K : Value → World → Prop} {w : World}
theorem tsz (a : List UInt8) : (⟨a.toArray⟩ : ByteArray).size = a.length := by show a.toArray.size = _; simp
theorem lnT {t ty : TypeId} (h : P.underlying t = some .string) {cs : Array Bool} {a : List UInt8} (k : K (.int .i64 a.length) w) : NextP P (builtin .len #[t] ty cs #[tS a]) K w := lns h (by rw [tsz]; exact k)
theorem ixT {t : TypeId} {kd : IntKind} (h : P.underlying t = some .string) {a : List UInt8} (i : Nat) (hi : i < a.length) (k : K (u8 a[i]) w) : LiftP P (Instr.index t (tS a) (.int kd (i : Int))) K w := by
  have hi' : i < (⟨a.toArray⟩ : ByteArray).size := by rw [tsz]; exact hi
  refine lift (v := u8 a[i]) (w' := w) ?_ k
  unfold tS
  rw [run_index_string w t ⟨a.toArray⟩ kd (i : Int) h, dif_pos ⟨by omega, by omega⟩]
  rfl
theorem cutTB {t : TypeId} (h : P.underlying t = some .string) {a : List UInt8} {k1 k2 : IntKind} (i j : Nat) (hij : i ≤ j) (hj : j ≤ a.length) (k : K (tS ((a.drop i).take (j - i))) w) : LiftP P (Instr.sliceAt t (tS a) (some (.int k1 (i : Int))) (some (.int k2 (j : Int))) none) K w := by
  refine lift (v := tS ((a.drop i).take (j - i))) (w' := w) ?_ k
  rw [run_sliceAt_string w t _ _ _ _ h]
  unfold tS
  rw [run_slice_string w t ⟨a.toArray⟩ k1 k2 (i : Int) (j : Int) h (by omega) (by omega) (by rw [tsz]; omega)]
  rw [Int.toNat_natCast, Int.toNat_natCast, Go.ByteArray.extract_mk]
theorem cvSB {s d e : TypeId} (hs : P.underlying s = some .string) (hd : P.underlying d = some (.slice e)) (he : P.underlying e = some (.int .u8)) {b : ByteArray} (hbs : b.size ≤ 1000000)
    (k : ∀ v' w', RdB w' v' b.data.toList → Below w.heap.size w w' → K v' w') : LiftP P (convert s d (.string b)) K w := by
  have hge := grownCap_ge w b.size 0 e
  have hsz : b.data.toList.length = b.size := by rw [Array.length_toList]; rfl
  refine lift (Lib.run_convert_string_bytes w s d e b hs hd he) (k _ _ ⟨some ⟨w.heap.size, 0, none⟩, grownCap w b.size 0 e, ?_, ?_, ?_, fun i u hu => ⟨_, rfl, ?_⟩⟩ ?_)
  · rw [List.length_map, hsz]
  · rw [List.length_map, hsz]; exact hge
  · have := grownCap_le_maxLen w b.size 0 e (by simp only [maxLen]; omega)
    simp only [maxLen] at this
    omega
  · obtain ⟨hi, hu⟩ := List.getElem?_eq_some_iff.1 hu
    rw [List.length_map, hsz] at hi
    rw [add0, Nat.zero_add, Lib.bytesWorld_cell w e b i hi, ← hu, List.getElem_map]
    simp [u8, List.getD_eq_getElem?_getD, hsz, hi]
  · exact ⟨rfl, rfl, rfl, by rw [Lib.bytesWorld_size]; omega, fun k hk => Lib.bytesWorld_at_old w e b k hk⟩
end
end Go.Proofs.YtmnaggdhkggjhaaGreatDoor.E
namespace Go.Proofs.YtmnaggdhkggjhaaGreatDoor.E.Pl
open Go Go.RowKit
set_option linter.unusedSimpArgs false
set_option linter.unusedVariables false

theorem bd1 : fofs Tryz.prog 157 1 = some (1, 1) := by kernel_rfl
theorem oneBy : oneB Tryz.prog 69 = true := by kernel_rfl
def BldR (B b : Nat) (bs : List UInt8) (w : World) : Prop := Lib.IsBuilderF 157 5 B b (Lib.byteCells bs) w
section
variable {B b : Nat} {bs : List UInt8} {w : World}
theorem BldR.write (h : BldR B b bs w) (hl : bs.length ≤ 1000000) (hB : B ≤ w.heap.size) (c : UInt8) :
    CallP Tryz.prog 104 #[.pointer (some ⟨b, 0, none⟩), u8 c] (fun r w' => BldR B b (bs ++ [c]) w' ∧ Below B w w') w := by
  refine ⟨(Any.Builder_WriteByte_k bldByte bldX B b (Lib.byteCells bs) c.toNat w h (by rw [Lib.byteCells_length]; omega) hB).mono ?_⟩
  rintro e w' ⟨rfl, h1, h2, _⟩
  refine ⟨_, rfl, ?_, h2⟩
  have e : Lib.byteCells (bs ++ [c]) = Lib.byteCells bs ++ [.int .u8 c.toNat] := by simp [Lib.byteCells]
  unfold BldR
  rw [e]
  exact .inr h1
theorem BldR.len (h : BldR B b bs w) : CallP Tryz.prog 105 #[.pointer (some ⟨b, 0, none⟩)] (fun r w' => r = .int .i64 bs.length ∧ w' = w) w := by
  obtain ⟨p, hB, v, hbk, hown, hne⟩ : ∃ p, Lib.BuilderAtF 157 5 B b p (Lib.byteCells bs) w := h.elim (fun h => ⟨_, h⟩) (fun h => ⟨_, h⟩)
  have c1 : w.cell? ⟨b, 1, none⟩ = some v := by rw [Lib.cell_of_heap hbk]; rfl
  obtain ⟨ao, cap, rfl⟩ : ∃ ao cap, v = .slice ao bs.length cap := by
    rw [Lib.byteCells_length] at hown
    rcases hown.2 with ⟨hv, h0⟩ | ⟨g, cap, cur, fz, hv, _⟩
    · exact ⟨none, 0, by rw [hv, h0]⟩
    · exact ⟨_, _, hv⟩
  refine ⟨S105.calls _ _ _ ?_⟩
  unfold S105
  (repeat with_reducible first|refine fd bd1 (by decide) ?_|refine ld oneBy c1 ?_|refine z_a ?_)
  refine ln undBy ?_
  exact ⟨rfl, rfl⟩
theorem BldR.str (h : BldR B b bs w) (hB : B ≤ w.heap.size) : CallP Tryz.prog 103 #[.pointer (some ⟨b, 0, none⟩)] (fun r w' => r = tS bs ∧ Below B w w') w := by
  refine ⟨(Any.Builder_String_any_k bldString bldX B b bs w h hB).mono ?_⟩
  rintro e w' ⟨rfl, _, h2, _⟩
  exact ⟨_, rfl, rfl, h2⟩
end
theorem zBld : (Tryz.prog.info? 157).bind (·.zero) = some (.agg #[.pointer none, .slice none 0 0]) := by kernel_rfl
theorem BldR.new {g : Nat} {w : World} (hB : Blk w g 157 #[.pointer none, .slice none 0 0]) : BldR g g [] w :=
  .inl ⟨Nat.le_refl _, .slice none 0 0, hB, ⟨rfl, .inl ⟨rfl, rfl⟩⟩, by intro e; cases e⟩
end Go.Proofs.YtmnaggdhkggjhaaGreatDoor.E.Pl
