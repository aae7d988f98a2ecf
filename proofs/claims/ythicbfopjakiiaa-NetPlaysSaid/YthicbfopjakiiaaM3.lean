import Derived.Test.YthicbfopjakiiaaM2
import Derived.Lib.MinMax
import Derived.Test.YthicbfopjakiiaaM1
import Derived.Test.YthicbfopjakiiaaProg
import Derived.KernelRfl
import Derived.IntWalk
namespace Go.Proofs.Ythicbfopjakiiaa.E
open Go Go.RowKit

/-- A [][]byte that reads as bss. -/
def RdSS (w : World) (v : Value) (bss : List (List UInt8)) : Prop :=
  ∃ A c, v = .slice A bss.length c ∧ bss.length ≤ c ∧ c ≤ 9223372036854775807 ∧ ∀ i (hi : i < bss.length), ∃ a A' n' c', A = some a ∧ w.cell? (a.add i) = some (.slice A' n' c') ∧ RdB w (.slice A' n' c') bss[i]
theorem RdSS.below {w w' : World} {v : Value} {bss : List (List UInt8)} (h : RdSS w v bss) (hb : Below w.heap.size w w') : RdSS w' v bss := by
  obtain ⟨A, c, rfl, h1, h2, h3⟩ := h
  refine ⟨A, c, rfl, h1, h2, fun i hi => ?_⟩
  obtain ⟨a, A', n', c', ha, hc, hr⟩ := h3 i hi
  exact ⟨a, A', n', c', ha, (hb.cell (World.block_lt_of_cell? w _ hc)).trans hc, hr.below hb⟩
theorem RdSS.at {w : World} {A : Option Addr} {n c : Nat} {bss : List (List UInt8)} (h : RdSS w (.slice A n c) bss) (i : Nat) (hi : i < bss.length) : ∃ a A' n' c', A = some a ∧ w.cell? (a.add i) = some (.slice A' n' c') ∧ RdB w (.slice A' n' c') bss[i] := by
  obtain ⟨A', c', he, _, _, h3⟩ := h
  cases he
  exact h3 i hi
theorem RdSS.slice {w : World} {v : Value} {bss : List (List UInt8)} (h : RdSS w v bss) : ∃ A c, v = .slice A bss.length c ∧ bss.length ≤ c ∧ c ≤ 9223372036854775807 := by
  obtain ⟨A, c, h0, h1, h2, _⟩ := h
  exact ⟨A, c, h0, h1, h2⟩
/-- A row of slices of its own. -/
theorem RdSS.of {w : World} {v : Value} {cs : List Value} {bss : List (List UInt8)} (h : Rd w v cs) (hl : cs.length = bss.length) (he : ∀ i (h1 : i < cs.length) (h2 : i < bss.length), RdB w cs[i] bss[i]) : RdSS w v bss := by
  obtain ⟨A, c, rfl, h1, h2, h3⟩ := h
  refine ⟨A, c, by rw [hl], by omega, h2, fun i hi => ?_⟩
  obtain ⟨a, ha, hc⟩ := h3 i _ (List.getElem?_eq_getElem (by omega))
  have hr := he i (by omega) hi
  obtain ⟨A', c', hs, _⟩ := hr.slice
  rw [hs] at hc hr
  exact ⟨a, A', _, c', ha, hc, hr⟩
section
variable {P : Program} {K : Value → World → Prop} {S : World → Prop} {w : World}
theorem cpx {t ty : TypeId} {e : TypeId} (h : P.underlying t = some (.slice e)) {cs : Array Bool} {A : Option Addr} {n c : Nat} (k : K (.int .i64 c) w) : NextP P (builtin .cap #[t] ty cs #[.slice A n c]) K w := by
  refine nextV ?_ k
  have he : P.elem t = e := by simp [Program.elem, h]
  have := run_cap_slice (P := P) w t ty A n c (by rw [he]; exact h)
  simp only [builtin] at this ⊢
  simp [this, goInt]
/-- y-rules for bytes -/
theorem yix1 {t e : TypeId} (h : P.underlying t = some (.slice e)) (hs : (P.info? e).map (·.size) = some 1) {a : Addr} {n c : Nat} {kd : IntKind} (i : Nat) (h1 : i < n)
    (k : K (.pointer (some (a.add i))) w) : YieldP P S (Instr.indexAt t (.slice (some a) n c) (.int kd (i : Int))) K w := by
  obtain ⟨j, hj, hs⟩ := Option.map_eq_some_iff.1 hs
  refine yld (v := .pointer (some (a.add i))) (fun w' _ => ?_) k
  simp [Instr.indexAt, run_underlying h, asIntOf, h1, sizeOf, typeInfo, hj, hs]
theorem yl1 {t : TypeId} (h : oneB P t = true) {a : Addr} {v : Value} (hc : ∀ w', S w' → w'.cell? a = some v) (k : K v w) : YieldP P S (Instr.loadAt t (.pointer (some a))) K w := yld (fun w' hw => run_load1 h (hc w' hw)) k
end
end Go.Proofs.Ythicbfopjakiiaa.E
namespace Go.Proofs.Ythicbfopjakiiaa.E
open Go Go.RowKit

section
variable {P : Program} {K : Value → World → Prop} {S : World → Prop} {w : World}
theorem pr_pnil {t e : TypeId} {x y : Operand} (h : P.underlying t = some (.pointer e)) {p : Option Addr} : PR P (binS .eql t x y (.pointer p) (.pointer none)) (.bool p.isNone) := by
  intro w
  have he : P.pointee t = e := by simp [Program.pointee, h]
  simp only [binS, eqGuard_at_pointer, Sem.run_bind, Sem.run_pure, Result.andThen_ok]
  exact run_eql_pointer_nil w t p (by rw [he]; exact h)
theorem lns {t ty : TypeId} (h : P.underlying t = some .string) {cs : Array Bool} {s : ByteArray} (k : K (.int .i64 s.size) w) : NextP P (builtin .len #[t] ty cs #[.string s]) K w := by
  refine nextV (v := .int .i64 s.size) (w' := w) ?_ k
  have := run_len_string (P := P) w t ty s h
  simp only [builtin] at this ⊢
  simp [this, goInt]
theorem yfd {s : TypeId} {i o n : Nat} (h : fofs P s i = some (o, n)) (hn : n ≠ 0) {g : Nat} (k : K (.pointer (some ⟨g, o, none⟩)) w) : YieldP P S (Instr.fieldAt s (.pointer (some ⟨g, 0, none⟩)) i) K w :=
  yld (fun w' _ => run_fd h hn _ w') (by rw [add0, Nat.zero_add]; exact k)
theorem yln {t ty : TypeId} {e : TypeId} (h : P.underlying t = some (.slice e)) {cs : Array Bool} {A : Option Addr} {n c : Nat} (k : K (.int .i64 n) w) : YieldN P S (builtin .len #[t] ty cs #[.slice A n c]) K w :=
  yldN (v := .int .i64 n) (fun w' _ => by simp [builtin, Builtin.len_, run_underlying h, goInt]) k
theorem ymn {t ty : TypeId} {cs : Array Bool} {a b : Int} (k : K (.int .i64 (min a b)) w) : YieldN P S (builtin .min #[t, t] ty cs #[.int .i64 a, .int .i64 b]) K w :=
  yldN (v := .int .i64 (min a b)) (fun w' _ => by
    have := Lib.run_min_ints (P := P) w' #[t, t] ty .i64 .i64 a b
    simp only [builtin] at this ⊢
    simp [this]) k
/-- append(v, x...), elements of any size. -/
theorem apG {t ty e : TypeId} {cs : Array Bool} {z : Value} {size bytes : Nat} (B : Nat) (ht : P.underlying t = some (.slice e)) (hinfo : (P.info? e).map (fun i => (i.zero, i.size, i.bytes)) = some (some z, size, bytes)) (hz : z.cells.size = size) (hsz : 0 < size)
    {v : Value} {xs : List Value} {n : Nat} (hown : w.ownsRow 0 e size v n xs) (hf : Fresh B v) (hB : B ≤ w.heap.size) {a : Addr} {m c : Nat} {news : List Value} (hl : news.length = m * size) (hnews : ∀ j u, news[j]? = some u → w.cell? (a.add j) = some u) (h1 : ∀ u ∈ news, u.oneCell' = true)
    (h63 : n + m ≤ 9223372036854775807) (hbytes : (n + m) * bytes ≤ 140737488355328)
    (k : ∀ v' w', w'.ownsRow 0 e size v' (n + m) (xs ++ news) → Fresh B v' → Below B w w' → w.grownBy w' v.ownBlock → K v' w') : NextP P (builtin .append #[t, t] ty cs #[v, .slice (some a) m c]) K w := by
  obtain ⟨i, hi, hzz⟩ := Option.map_eq_some_iff.1 hinfo
  simp only [Prod.mk.injEq] at hzz
  obtain ⟨hz0, hz1, hz2⟩ := hzz
  obtain ⟨v', w', hr, h2, h3, _, h5⟩ := run_append_own_at (P := P) w 0 t ty e i z size bytes ht hi hz0 hz1 hz2 hz hsz v n xs hown a m c news hl hnews h1 (by simp only [maxLen]; omega) hbytes (Nat.zero_le _)
  refine nextV (v := v') (w' := w') ?_ (k v' w' h2 (fun j hj => by rcases h5 with h | h <;> rw [h] at hj; exact hf j hj; cases hj; exact hB) ((Below.refl B w).grown h3 hB (fun j hj => hf j hj)) h3)
  simp only [builtin]
  simp [hr]
theorem or_u8 (a b : UInt8) : Go.bits .or .u8 (a.toNat : Int) (b.toNat : Int) = ((a ||| b).toNat : Int) := by
  show IntKind.u8.wrap _ = _
  have h : ∀ c : UInt8, BitVec.ofInt 8 (c.toNat : Int) = c.toBitVec := fun c => by
    apply BitVec.eq_of_toNat_eq
    have := c.toNat_lt
    simp
  have h2 : ∀ c : UInt8, IntKind.u8.wrap (c.toNat : Int) = (c.toNat : Int) := fun c => IntWalk.u8_in _ (by have := c.toNat_lt; omega)
  simp only [IntKind.bits, h]
  rw [← h2 (a ||| b)]
  rfl
end
end Go.Proofs.Ythicbfopjakiiaa.E
namespace Go.Proofs.Ythicbfopjakiiaa.E
open Go
set_option maxRecDepth 100000

/-- shelfmark/pack.Join -/
def S54 (a0 : Value) (R : Value → World → Prop) (w : World) : Prop :=
  CallP Try.prog 71 #[a0] (fun v4 w =>
  R v4 w) w
theorem S54.calls (a0 : Value) (R : Value → World → Prop) (w : World) (h : S54 a0 R w) : Calls Try.prog 54 #[a0] w fun e w' => ∃ v, e = .returned v ∧ R v w' :=
  calls_of_tr (n := 5) (c := bodyOf Try.f54) (.two .leaf (.two .leaf .leaf)) Try.func54 (by kernel_rfl) Try.ntmps54 (by kernel_rfl) (by kernel_rfl) [a0] (by kernel_rfl) (of_eq_ (by kernel_rfl) h)

/-- shelfmark/pack.Num -/
def S55 (a0 : Value) (R : Value → World → Prop) (w : World) : Prop :=
  LiftP Try.prog (binS Go.BinOp.lss 3 (Go.Operand.tmp 4) (Go.Operand.const (Go.Value.int Go.IntKind.i64 0)) a0 (Go.Value.int Go.IntKind.i64 0)) (fun v5 w =>
  CondP v5 (fun w =>
    R (Go.Value.slice none 0 0) w) (fun w =>
    LoopP (fun J vs w =>   -- [0, 3]
    LiftP Try.prog (binS Go.BinOp.gtr 3 (Go.Operand.tmp 6) (Go.Operand.const (Go.Value.int Go.IntKind.i64 127)) (vs.headD undef) (Go.Value.int Go.IntKind.i64 127)) (fun v7 w =>
    CondP v7 (fun w =>
      LiftP Try.prog (convert 3 5 (vs.headD undef)) (fun v12 w =>
    LiftP Try.prog (binS Go.BinOp.or 5 (Go.Operand.tmp 12) (Go.Operand.const (Go.Value.int Go.IntKind.u8 128)) v12 (Go.Value.int Go.IntKind.u8 128)) (fun v13 w =>
    LiftP Try.prog (Instr.buildSlice 30 1 #[(0, v13)]) (fun v14 w =>
    NextP Try.prog (builtin Go.Builtin.append #[30, 30] 30 #[false, false] #[(vs.tail.headD undef), v14]) (fun v15 w =>
    LiftP Try.prog (binS Go.BinOp.shr 3 (Go.Operand.tmp 8) (Go.Operand.const (Go.Value.int Go.IntKind.u64 7)) (vs.headD undef) (Go.Value.int Go.IntKind.u64 7)) (fun v9 w =>
    J [v9, v15] w) w) w) w) w) w) (fun w =>
      LiftP Try.prog (convert 3 5 (vs.headD undef)) (fun v18 w =>
  LiftP Try.prog (Instr.buildSlice 30 1 #[(0, v18)]) (fun v19 w =>
  NextP Try.prog (builtin Go.Builtin.append #[30, 30] 30 #[false, false] #[(vs.tail.headD undef), v19]) (fun v20 w =>
  R v20 w) w) w) w) w) w) [a0, (Go.Value.slice none 0 0)] w) w) w
theorem S55.calls (a0 : Value) (R : Value → World → Prop) (w : World) (h : S55 a0 R w) : Calls Try.prog 55 #[a0] w fun e w' => ∃ v, e = .returned v ∧ R v w' :=
  calls_of_tr (n := 21) (c := bodyOf Try.f55) (.two .leaf (.two (.two .leaf (.two (.two .leaf .leaf) .leaf)) (.two .leaf (.two (.one (.loop [0, 3] (.two (.two .leaf (.two .leaf .leaf)) (.two (.one .leaf) .leaf)))) (.two .leaf .leaf))))) Try.func55 (by kernel_rfl) Try.ntmps55 (by kernel_rfl) (by kernel_rfl) [a0] (by kernel_rfl) (of_eq_ (by kernel_rfl) h)

/-- slices.Concat[[]byte,byte] -/
def S71 (a0 : Value) (R : Value → World → Prop) (w : World) : Prop :=
  NextP Try.prog (builtin Go.Builtin.len #[133] 3 #[false] #[a0]) (fun v10 w =>
  LoopP (fun J vs w =>   -- [3, 11]
    LiftP Try.prog (binS Go.BinOp.lss 3 (Go.Operand.tmp 11) (Go.Operand.tmp 10) (vs.tail.headD undef) v10) (fun v12 w =>
    CondP v12 (fun w =>
      JoinP (fun J_1 w =>
      LiftP Try.prog (Instr.indexAt 133 a0 (vs.tail.headD undef)) (fun v13 w =>
      LiftP Try.prog (Instr.loadAt 30 v13) (fun v14 w =>
      NextP Try.prog (builtin Go.Builtin.len #[30] 3 #[false] #[v14]) (fun v17 w =>
      LiftP Try.prog (binS Go.BinOp.add 3 (Go.Operand.tmp 15) (Go.Operand.tmp 17) (vs.headD undef) v17) (fun v18 w =>
      LiftP Try.prog (binS Go.BinOp.lss 3 (Go.Operand.tmp 19) (Go.Operand.const (Go.Value.int Go.IntKind.i64 0)) v18 (Go.Value.int Go.IntKind.i64 0)) (fun v20 w =>
      CondP v20 (fun w =>
        LiftP Try.prog (Instr.makeInterface 9 (Go.Value.string { data := #[108, 101, 110, 32, 111, 117, 116, 32, 111, 102, 32, 114, 97, 110, 103, 101] })) (fun v21 w =>
        LiftP Try.prog (Instr.panic v21) (fun v_ w =>
        J_1 [v18] w) w) w) (fun w =>
        J_1 [v18] w) w) w) w) w) w) w) (fun vs_1 w =>   -- [3]
    LiftP Try.prog (binS Go.BinOp.add 3 (Go.Operand.tmp 11) (Go.Operand.const (Go.Value.int Go.IntKind.i64 1)) (vs.tail.headD undef) (Go.Value.int Go.IntKind.i64 1)) (fun v22 w =>
    J [(vs_1.headD undef), v22] w) w) w) (fun w =>
      CallP Try.prog 84 #[(Go.Value.slice none 0 0), (vs.headD undef)] (fun v24 w =>
  NextP Try.prog (builtin Go.Builtin.len #[133] 3 #[false] #[a0]) (fun v26 w =>
  LoopP (fun J_2 vs_2 w =>   -- [6, 27]
    LiftP Try.prog (binS Go.BinOp.lss 3 (Go.Operand.tmp 27) (Go.Operand.tmp 26) (vs_2.tail.headD undef) v26) (fun v28 w =>
    CondP v28 (fun w =>
      LiftP Try.prog (Instr.indexAt 133 a0 (vs_2.tail.headD undef)) (fun v29 w =>
    LiftP Try.prog (Instr.loadAt 30 v29) (fun v30 w =>
    NextP Try.prog (builtin Go.Builtin.append #[30, 30] 30 #[false, false] #[(vs_2.headD undef), v30]) (fun v33 w =>
    LiftP Try.prog (binS Go.BinOp.add 3 (Go.Operand.tmp 27) (Go.Operand.const (Go.Value.int Go.IntKind.i64 1)) (vs_2.tail.headD undef) (Go.Value.int Go.IntKind.i64 1)) (fun v34 w =>
    J_2 [v33, v34] w) w) w) w) w) (fun w =>
      R (vs_2.headD undef) w) w) w) [v24, (Go.Value.int Go.IntKind.i64 0)] w) w) w) w) w) [(Go.Value.int Go.IntKind.i64 0), (Go.Value.int Go.IntKind.i64 0)] w) w
theorem S71.calls (a0 : Value) (R : Value → World → Prop) (w : World) (h : S71 a0 R w) : Calls Try.prog 71 #[a0] w fun e w' => ∃ v, e = .returned v ∧ R v w' :=
  calls_of_tr (n := 36) (c := bodyOf Try.f71) (.two .leaf (.two .leaf (.two (.two .leaf (.one (.loop [3, 11] (.two .leaf (.two (.two .leaf .leaf) (.join [3] (.one (.two .leaf (.two .leaf (.two .leaf (.two .leaf .leaf))))) .leaf)))))) (.two .leaf (.two (.two .leaf (.one (.loop [6, 27] (.two .leaf (.two (.two .leaf .leaf) (.two (.one (.two .leaf .leaf)) .leaf)))))) (.two .leaf .leaf)))))) Try.func71 (by kernel_rfl) Try.ntmps71 (by kernel_rfl) (by kernel_rfl) [a0] (by kernel_rfl) (of_eq_ (by kernel_rfl) h)

/-- shelfmark/pack.Text -/
def S72 (a0 : Value) (R : Value → World → Prop) (w : World) : Prop :=
  NextP Try.prog (builtin Go.Builtin.len #[9] 3 #[false] #[a0]) (fun v4 w =>
  CallP Try.prog 55 #[v4] (fun v5 w =>
  NextP Try.prog (builtin Go.Builtin.append #[30, 9] 30 #[false, false] #[v5, a0]) (fun v7 w =>
  R v7 w) w) w) w
theorem S72.calls (a0 : Value) (R : Value → World → Prop) (w : World) (h : S72 a0 R w) : Calls Try.prog 72 #[a0] w fun e w' => ∃ v, e = .returned v ∧ R v w' :=
  calls_of_tr (n := 8) (c := bodyOf Try.f72) (.two .leaf (.two .leaf .leaf)) Try.func72 (by kernel_rfl) Try.ntmps72 (by kernel_rfl) (by kernel_rfl) [a0] (by kernel_rfl) (of_eq_ (by kernel_rfl) h)

/-- slices.Grow[[]byte,byte] -/
def S84 (a0 a1 : Value) (R : Value → World → Prop) (w : World) : Prop :=
  JoinP (fun J w =>
    LiftP Try.prog (binS Go.BinOp.lss 3 (Go.Operand.tmp 5) (Go.Operand.const (Go.Value.int Go.IntKind.i64 0)) a1 (Go.Value.int Go.IntKind.i64 0)) (fun v6 w =>
    CondP v6 (fun w =>
      LiftP Try.prog (Instr.makeInterface 9 (Go.Value.string { data := #[99, 97, 110, 110, 111, 116, 32, 98, 101, 32, 110, 101, 103, 97, 116, 105, 118, 101] })) (fun v7 w =>
      LiftP Try.prog (Instr.panic v7) (fun v_ w =>
      J [] w) w) w) (fun w =>
      J [] w) w) w) (fun vs w =>   -- []
  JoinP (fun J_1 w =>
    NextP Try.prog (builtin Go.Builtin.cap #[30] 3 #[false] #[a0]) (fun v10 w =>
    NextP Try.prog (builtin Go.Builtin.len #[30] 3 #[false] #[a0]) (fun v12 w =>
    LiftP Try.prog (binS Go.BinOp.sub 3 (Go.Operand.tmp 10) (Go.Operand.tmp 12) v10 v12) (fun v13 w =>
    LiftP Try.prog (binS Go.BinOp.sub 3 (Go.Operand.tmp 8) (Go.Operand.tmp 13) a1 v13) (fun v14 w =>
    LiftP Try.prog (binS Go.BinOp.gtr 3 (Go.Operand.tmp 15) (Go.Operand.const (Go.Value.int Go.IntKind.i64 0)) v14 (Go.Value.int Go.IntKind.i64 0)) (fun v16 w =>
    CondP v16 (fun w =>
      NextP Try.prog (builtin Go.Builtin.cap #[30] 3 #[false] #[a0]) (fun v19 w =>
      LiftP Try.prog (Instr.sliceAt 30 a0 none (some v19) none) (fun v20 w =>
      NextP Try.prog (builtin Go.Builtin.append #[30, 3] 30 #[false, false] #[v20, v14]) (fun v22 w =>
      NextP Try.prog (builtin Go.Builtin.len #[30] 3 #[false] #[a0]) (fun v24 w =>
      LiftP Try.prog (Instr.sliceAt 30 v22 none (some v24) none) (fun v25 w =>
      J_1 [v25] w) w) w) w) w) w) (fun w =>
      J_1 [a0] w) w) w) w) w) w) w) (fun vs_1 w =>   -- [0]
  R (vs_1.headD undef) w) w) w
theorem S84.calls (a0 a1 : Value) (R : Value → World → Prop) (w : World) (h : S84 a0 a1 R w) : Calls Try.prog 84 #[a0, a1] w fun e w' => ∃ v, e = .returned v ∧ R v w' :=
  calls_of_tr (n := 27) (c := bodyOf Try.f84) (.two .leaf (.join [] (.two .leaf (.two .leaf .leaf)) (.join [0] (.two .leaf (.two .leaf (.two .leaf .leaf))) (.two .leaf .leaf)))) Try.func84 (by kernel_rfl) Try.ntmps84 (by kernel_rfl) (by kernel_rfl) [a0, a1] (by kernel_rfl) (of_eq_ (by kernel_rfl) h)

end Go.Proofs.Ythicbfopjakiiaa.E
namespace Go.Proofs.Ythicbfopjakiiaa.Frame
theorem flat_take (bss : List (List UInt8)) (k : Nat) (h : k < bss.length) : (bss.take (k + 1)).flatten = (bss.take k).flatten ++ bss[k] := by
  rw [List.take_succ_eq_append_getElem h, List.flatten_append, List.flatten_cons, List.flatten_nil, List.append_nil]
theorem flat_le (bss : List (List UInt8)) (k : Nat) : (bss.take k).flatten.length ≤ bss.flatten.length := by
  have h := congrArg (fun x => x.flatten.length) (List.take_append_drop k bss)
  simp only [List.flatten_append, List.length_append] at h
  omega
end Go.Proofs.Ythicbfopjakiiaa.Frame
namespace Go.Proofs.Ythicbfopjakiiaa.E
open Go Go.RowKit
set_option linter.unusedSimpArgs false
set_option linter.unusedVariables false
theorem undSS : Try.prog.underlying 133 = some (.slice 30) := by kernel_rfl
theorem undB : Try.prog.underlying 30 = some (.slice 5) := by kernel_rfl
theorem und5 : Try.prog.underlying 5 = some (.int .u8) := by kernel_rfl
theorem und3 : Try.prog.underlying 3 = some (.int .i64) := by kernel_rfl
theorem und9 : Try.prog.underlying 9 = some .string := by kernel_rfl
theorem szB : (Try.prog.info? 30).map (·.size) = some 1 := by kernel_rfl
theorem sz5 : (Try.prog.info? 5).map (·.size) = some 1 := by kernel_rfl
theorem sz3 : (Try.prog.info? 3).map (·.size) = some 1 := by kernel_rfl
theorem oneBB : oneB Try.prog 30 = true := by kernel_rfl
theorem one3 : oneB Try.prog 3 = true := by kernel_rfl
theorem one9 : oneB Try.prog 9 = true := by kernel_rfl
theorem inf5 : (Try.prog.info? 5).map (fun i => (i.zero, i.size, i.bytes)) = some (some (.int .u8 0), 1, 1) := by kernel_rfl
theorem tot_cast (a b : Nat) : ((a : Int) + (b : Int)) = ((a + b : Nat) : Int) := by omega

theorem Grow_spec (n : Nat) (hn : n ≤ 1000000000) (w : World) : CallP Try.prog 84 #[.slice none 0 0, .int .i64 n] (fun r w' => Own 5 w' r [] ∧ Fresh w.heap.size r ∧ Below w.heap.size w w') w := by
  refine ⟨S84.calls _ _ _ _ ?_⟩
  unfold S84
  refine JoinP.plain ?_
  (repeat with_reducible first|refine z_a ?_|refine z_b ?_|refine z_c ?_|refine z_d ?_|refine z_e ?_|refine z_f ?_|refine z_g ?_|refine z_h ?_|refine z_i ?_|refine z_j ?_|refine z_k ?_|refine z_l ?_|refine z_m (by omega) ?_|refine z_n (by omega) ?_|refine z_o (by omega) ?_|refine z_p (by omega) ?_|refine z_q (by omega) ?_|refine z_r (by omega) ?_|refine z_s (by omega) ?_|refine z_t (by omega) ?_|refine z_u (by omega) ?_|refine z_v (by omega) ?_|refine z_w (by omega) ?_|refine z_x (by omega) ?_|refine z_y (by omega) ?_|refine z_z (by omega) ?_|refine z_A ?_|refine z_B ?_|refine z_C ?_|refine z_D ?_|refine z_E ?_|refine z_F ?_|refine z_G ?_|refine z_H ?_|refine z_I ?_|refine z_J ?_|refine z_K (by omega) (by decide) ?_|refine z_L (by omega) (by decide) ?_|refine z_M (by omega) ?_|refine z_N (by omega) ?_|refine z_O (by omega) ?_|refine z_P ?_|refine z_Q ?_|refine z_R ?_|refine z_S ?_|refine z_T ?_|refine z_U (by decide) ?_|refine z_V (by decide) ?_)
  refine JoinP.plain ?_
  refine cpx undB ?_
  refine ln undB ?_
  (repeat with_reducible first|refine z_a ?_|refine z_b ?_|refine z_c ?_|refine z_d ?_|refine z_e ?_|refine z_f ?_|refine z_g ?_|refine z_h ?_|refine z_i ?_|refine z_j ?_|refine z_k ?_|refine z_l ?_|refine z_m (by omega) ?_|refine z_n (by omega) ?_|refine z_o (by omega) ?_|refine z_p (by omega) ?_|refine z_q (by omega) ?_|refine z_r (by omega) ?_|refine z_s (by omega) ?_|refine z_t (by omega) ?_|refine z_u (by omega) ?_|refine z_v (by omega) ?_|refine z_w (by omega) ?_|refine z_x (by omega) ?_|refine z_y (by omega) ?_|refine z_z (by omega) ?_|refine z_A ?_|refine z_B ?_|refine z_C ?_|refine z_D ?_|refine z_E ?_|refine z_F ?_|refine z_G ?_|refine z_H ?_|refine z_I ?_|refine z_J ?_|refine z_K (by omega) (by decide) ?_|refine z_L (by omega) (by decide) ?_|refine z_M (by omega) ?_|refine z_N (by omega) ?_|refine z_O (by omega) ?_|refine z_P ?_|refine z_Q ?_|refine z_R ?_|refine z_S ?_|refine z_T ?_|refine z_U (by decide) ?_|refine z_V (by decide) ?_)
  (first | refine bi_lss_c (fun h => ?_) (fun h => ?_) | refine bi_eql_c (fun h => ?_) (fun h => ?_) | refine bi_neq_c (fun h => ?_) (fun h => ?_) | refine bi_gtr_c (fun h => ?_) (fun h => ?_) | refine bi_leq_c (fun h => ?_) (fun h => ?_) | refine bi_geq_c (fun h => ?_) (fun h => ?_) | refine bi_seql_c (fun h => ?_) (fun h => ?_) | refine bi_sneq_c (fun h => ?_) (fun h => ?_))
  · (repeat with_reducible first|refine z_a ?_|refine z_b ?_|refine z_c ?_|refine z_d ?_|refine z_e ?_|refine z_f ?_|refine z_g ?_|refine z_h ?_|refine z_i ?_|refine z_j ?_|refine z_k ?_|refine z_l ?_|refine z_m (by omega) ?_|refine z_n (by omega) ?_|refine z_o (by omega) ?_|refine z_p (by omega) ?_|refine z_q (by omega) ?_|refine z_r (by omega) ?_|refine z_s (by omega) ?_|refine z_t (by omega) ?_|refine z_u (by omega) ?_|refine z_v (by omega) ?_|refine z_w (by omega) ?_|refine z_x (by omega) ?_|refine z_y (by omega) ?_|refine z_z (by omega) ?_|refine z_A ?_|refine z_B ?_|refine z_C ?_|refine z_D ?_|refine z_E ?_|refine z_F ?_|refine z_G ?_|refine z_H ?_|refine z_I ?_|refine z_J ?_|refine z_K (by omega) (by decide) ?_|refine z_L (by omega) (by decide) ?_|refine z_M (by omega) ?_|refine z_N (by omega) ?_|refine z_O (by omega) ?_|refine z_P ?_|refine z_Q ?_|refine z_R ?_|refine z_S ?_|refine z_T ?_|refine z_U (by decide) ?_|refine z_V (by decide) ?_)
    refine cpx undB ?_
    refine ofPR (pr_cut undB sz5 .no (.at _ _) .no (Nat.le_refl _) (fun h => by cases h) (Nat.le_refl _) (Nat.le_refl _) (.inl rfl)) ?_
    rw [show ((n : Int) - (((0 : Nat) : Int) - ((0 : Nat) : Int))) = (n : Int) from by omega]
    obtain ⟨i, hi, hzz⟩ := Option.map_eq_some_iff.1 inf5
    simp only [Prod.mk.injEq] at hzz
    obtain ⟨hz0, hz1, hz2⟩ := hzz
    have hr := Lib.run_append_nil_zeros (P := Try.prog) w 30 3 30 5 i (.int .u8 0) .i64 .i64 undB und3 hi hz0 n (by omega) (by omega) (by omega) (by rw [hz2]; omega)
    refine nextV (v := .slice (some ⟨w.heap.size, 0, none⟩) n (grownCap w n 0 5)) (w' := w.drew.alloc (.cells (Builtin.zeroCells (Value.int .u8 0).cells n ++ Builtin.zeroCells (Value.int .u8 0).cells (grownCap w n 0 5 - n)) 5)) ?_ ?_
    · simp only [builtin] at hr ⊢
      rw [show sliced none 0 0 0 1 = .slice none 0 0 from rfl]
      simp [hr]
    have hge := grownCap_ge w n 0 5
    have hle := grownCap_le_maxLen w n 0 5 (by simp only [maxLen]; omega)
    refine ln undB ?_
    refine ofPR (pr_cut undB sz5 .no (.at _ _) .no (Nat.zero_le _) (fun h => by cases h) (Nat.zero_le _) (Nat.le_refl _) (.inl rfl)) ?_
    have hbl := Blk.new w.drew 5 (Builtin.zeroCells (Value.int .u8 0).cells n ++ Builtin.zeroCells (Value.int .u8 0).cells (grownCap w n 0 5 - n))
    refine ⟨?_, ?_, ?_⟩
    · rw [sliced, show (if grownCap w n 0 5 = 0 then (some (⟨w.heap.size, 0, none⟩ : Addr)) else (some (⟨w.heap.size, 0, none⟩ : Addr)).map (·.add (0 * 1))) = some ⟨w.heap.size, 0, none⟩ from by split <;> simp [Addr.add]]
      refine Own.of_blk hbl rfl (Nat.zero_le _) (by simp only [maxLen] at hle; omega) ?_ rfl
      simp [Builtin.zeroCells, Value.cells]
      omega
    · intro k hk
      simp only [List.headD_cons] at hk
      rw [sliced, show (if grownCap w n 0 5 = 0 then (some (⟨w.heap.size, 0, none⟩ : Addr)) else (some (⟨w.heap.size, 0, none⟩ : Addr)).map (·.add (0 * 1))) = some ⟨w.heap.size, 0, none⟩ from by split <;> simp [Addr.add]] at hk
      cases hk
      exact Nat.le_refl _
    · exact (Below.refl _ w).drew.alloc (Nat.le_refl _) _
  · (repeat with_reducible first|refine z_a ?_|refine z_b ?_|refine z_c ?_|refine z_d ?_|refine z_e ?_|refine z_f ?_|refine z_g ?_|refine z_h ?_|refine z_i ?_|refine z_j ?_|refine z_k ?_|refine z_l ?_|refine z_m (by omega) ?_|refine z_n (by omega) ?_|refine z_o (by omega) ?_|refine z_p (by omega) ?_|refine z_q (by omega) ?_|refine z_r (by omega) ?_|refine z_s (by omega) ?_|refine z_t (by omega) ?_|refine z_u (by omega) ?_|refine z_v (by omega) ?_|refine z_w (by omega) ?_|refine z_x (by omega) ?_|refine z_y (by omega) ?_|refine z_z (by omega) ?_|refine z_A ?_|refine z_B ?_|refine z_C ?_|refine z_D ?_|refine z_E ?_|refine z_F ?_|refine z_G ?_|refine z_H ?_|refine z_I ?_|refine z_J ?_|refine z_K (by omega) (by decide) ?_|refine z_L (by omega) (by decide) ?_|refine z_M (by omega) ?_|refine z_N (by omega) ?_|refine z_O (by omega) ?_|refine z_P ?_|refine z_Q ?_|refine z_R ?_|refine z_S ?_|refine z_T ?_|refine z_U (by decide) ?_|refine z_V (by decide) ?_)
    exact ⟨Own.nil 5 w, Fresh.nil _, Below.refl _ w⟩

theorem Concat_spec (v : Value) (bss : List (List UInt8)) (w : World) (hv : RdSS w v bss) (hl : bss.length ≤ 1000000) (ht : bss.flatten.length ≤ 1000000000) :
    CallP Try.prog 71 #[v] (fun r w' => Own 5 w' r (bss.flatten.map u8) ∧ Fresh w.heap.size r ∧ Below w.heap.size w w') w := by
  obtain ⟨A, c, rfl, hc1, hc2⟩ := hv.slice
  refine ⟨S71.calls _ _ _ ?_⟩
  unfold S71
  refine ln undSS ?_
  refine LoopP.inv2 (fun x i w' => ∃ k : Nat, k ≤ bss.length ∧ i = .int .i64 k ∧ x = .int .i64 ((bss.take k).flatten.length : Nat) ∧ w = w') (fun _ i _ => bss.length - (intOf i).toNat) ⟨0, by omega, rfl, rfl, rfl⟩ ?_
  rintro _ _ _ ⟨k, hk, rfl, rfl, rfl⟩ J hJ
  dsimp only [List.headD_cons, List.tail_cons]
  have hk1 := Frame.flat_le bss k
  (repeat with_reducible first|refine z_a ?_|refine z_b ?_|refine z_c ?_|refine z_d ?_|refine z_e ?_|refine z_f ?_|refine z_g ?_|refine z_h ?_|refine z_i ?_|refine z_j ?_|refine z_k ?_|refine z_l ?_|refine z_m (by omega) ?_|refine z_n (by omega) ?_|refine z_o (by omega) ?_|refine z_p (by omega) ?_|refine z_q (by omega) ?_|refine z_r (by omega) ?_|refine z_s (by omega) ?_|refine z_t (by omega) ?_|refine z_u (by omega) ?_|refine z_v (by omega) ?_|refine z_w (by omega) ?_|refine z_x (by omega) ?_|refine z_y (by omega) ?_|refine z_z (by omega) ?_|refine z_A ?_|refine z_B ?_|refine z_C ?_|refine z_D ?_|refine z_E ?_|refine z_F ?_|refine z_G ?_|refine z_H ?_|refine z_I ?_|refine z_J ?_|refine z_K (by omega) (by decide) ?_|refine z_L (by omega) (by decide) ?_|refine z_M (by omega) ?_|refine z_N (by omega) ?_|refine z_O (by omega) ?_|refine z_P ?_|refine z_Q ?_|refine z_R ?_|refine z_S ?_|refine z_T ?_|refine z_U (by decide) ?_|refine z_V (by decide) ?_)
  (first | refine bi_lss_c (fun h => ?_) (fun h => ?_) | refine bi_eql_c (fun h => ?_) (fun h => ?_) | refine bi_neq_c (fun h => ?_) (fun h => ?_) | refine bi_gtr_c (fun h => ?_) (fun h => ?_) | refine bi_leq_c (fun h => ?_) (fun h => ?_) | refine bi_geq_c (fun h => ?_) (fun h => ?_) | refine bi_seql_c (fun h => ?_) (fun h => ?_) | refine bi_sneq_c (fun h => ?_) (fun h => ?_))
  · have hk' : k < bss.length := by omega
    have hk2 := Frame.flat_le bss (k + 1)
    rw [Frame.flat_take bss k hk', List.length_append] at hk2
    obtain ⟨a, A', n', c', rfl, hca, hrb⟩ := hv.at k hk'
    obtain ⟨A2, c2, he, _⟩ := hrb.slice
    cases he
    (repeat with_reducible first|refine z_a ?_|refine z_b ?_|refine z_c ?_|refine z_d ?_|refine z_e ?_|refine z_f ?_|refine z_g ?_|refine z_h ?_|refine z_i ?_|refine z_j ?_|refine z_k ?_|refine z_l ?_|refine z_m (by omega) ?_|refine z_n (by omega) ?_|refine z_o (by omega) ?_|refine z_p (by omega) ?_|refine z_q (by omega) ?_|refine z_r (by omega) ?_|refine z_s (by omega) ?_|refine z_t (by omega) ?_|refine z_u (by omega) ?_|refine z_v (by omega) ?_|refine z_w (by omega) ?_|refine z_x (by omega) ?_|refine z_y (by omega) ?_|refine z_z (by omega) ?_|refine z_A ?_|refine z_B ?_|refine z_C ?_|refine z_D ?_|refine z_E ?_|refine z_F ?_|refine z_G ?_|refine z_H ?_|refine z_I ?_|refine z_J ?_|refine z_K (by omega) (by decide) ?_|refine z_L (by omega) (by decide) ?_|refine z_M (by omega) ?_|refine z_N (by omega) ?_|refine z_O (by omega) ?_|refine z_P ?_|refine z_Q ?_|refine z_R ?_|refine z_S ?_|refine z_T ?_|refine z_U (by decide) ?_|refine z_V (by decide) ?_)
    refine JoinP.plain ?_
    (repeat with_reducible first | refine ix1 undSS szB hk' ?_| refine ld oneBB hca ?_| refine ln undB ?_|refine z_a ?_|refine z_b ?_|refine z_c ?_|refine z_d ?_|refine z_e ?_|refine z_f ?_|refine z_g ?_|refine z_h ?_|refine z_i ?_|refine z_j ?_|refine z_k ?_|refine z_l ?_|refine z_m (by omega) ?_|refine z_n (by omega) ?_|refine z_o (by omega) ?_|refine z_p (by omega) ?_|refine z_q (by omega) ?_|refine z_r (by omega) ?_|refine z_s (by omega) ?_|refine z_t (by omega) ?_|refine z_u (by omega) ?_|refine z_v (by omega) ?_|refine z_w (by omega) ?_|refine z_x (by omega) ?_|refine z_y (by omega) ?_|refine z_z (by omega) ?_|refine z_A ?_|refine z_B ?_|refine z_C ?_|refine z_D ?_|refine z_E ?_|refine z_F ?_|refine z_G ?_|refine z_H ?_|refine z_I ?_|refine z_J ?_|refine z_K (by omega) (by decide) ?_|refine z_L (by omega) (by decide) ?_|refine z_M (by omega) ?_|refine z_N (by omega) ?_|refine z_O (by omega) ?_|refine z_P ?_|refine z_Q ?_|refine z_R ?_|refine z_S ?_|refine z_T ?_|refine z_U (by decide) ?_|refine z_V (by decide) ?_)
    dsimp only [List.headD_cons, List.tail_cons]
    (repeat with_reducible first|refine z_a ?_|refine z_b ?_|refine z_c ?_|refine z_d ?_|refine z_e ?_|refine z_f ?_|refine z_g ?_|refine z_h ?_|refine z_i ?_|refine z_j ?_|refine z_k ?_|refine z_l ?_|refine z_m (by omega) ?_|refine z_n (by omega) ?_|refine z_o (by omega) ?_|refine z_p (by omega) ?_|refine z_q (by omega) ?_|refine z_r (by omega) ?_|refine z_s (by omega) ?_|refine z_t (by omega) ?_|refine z_u (by omega) ?_|refine z_v (by omega) ?_|refine z_w (by omega) ?_|refine z_x (by omega) ?_|refine z_y (by omega) ?_|refine z_z (by omega) ?_|refine z_A ?_|refine z_B ?_|refine z_C ?_|refine z_D ?_|refine z_E ?_|refine z_F ?_|refine z_G ?_|refine z_H ?_|refine z_I ?_|refine z_J ?_|refine z_K (by omega) (by decide) ?_|refine z_L (by omega) (by decide) ?_|refine z_M (by omega) ?_|refine z_N (by omega) ?_|refine z_O (by omega) ?_|refine z_P ?_|refine z_Q ?_|refine z_R ?_|refine z_S ?_|refine z_T ?_|refine z_U (by decide) ?_|refine z_V (by decide) ?_)
    refine hJ _ _ _ ⟨k + 1, by omega, by simp, ?_, rfl⟩ (by simp [intOf]; omega)
    rw [Frame.flat_take bss k hk', List.length_append, tot_cast]
  · have hkl : k = bss.length := by omega
    subst hkl
    (repeat with_reducible first|refine z_a ?_|refine z_b ?_|refine z_c ?_|refine z_d ?_|refine z_e ?_|refine z_f ?_|refine z_g ?_|refine z_h ?_|refine z_i ?_|refine z_j ?_|refine z_k ?_|refine z_l ?_|refine z_m (by omega) ?_|refine z_n (by omega) ?_|refine z_o (by omega) ?_|refine z_p (by omega) ?_|refine z_q (by omega) ?_|refine z_r (by omega) ?_|refine z_s (by omega) ?_|refine z_t (by omega) ?_|refine z_u (by omega) ?_|refine z_v (by omega) ?_|refine z_w (by omega) ?_|refine z_x (by omega) ?_|refine z_y (by omega) ?_|refine z_z (by omega) ?_|refine z_A ?_|refine z_B ?_|refine z_C ?_|refine z_D ?_|refine z_E ?_|refine z_F ?_|refine z_G ?_|refine z_H ?_|refine z_I ?_|refine z_J ?_|refine z_K (by omega) (by decide) ?_|refine z_L (by omega) (by decide) ?_|refine z_M (by omega) ?_|refine z_N (by omega) ?_|refine z_O (by omega) ?_|refine z_P ?_|refine z_Q ?_|refine z_R ?_|refine z_S ?_|refine z_T ?_|refine z_U (by decide) ?_|refine z_V (by decide) ?_)
    rw [List.take_length]
    refine (Grow_spec _ ht w).mono ?_
    rintro v1 w1 ⟨ho1, hf1, hb1⟩
    refine ln undSS ?_
    refine LoopP.inv2 (fun x i w' => ∃ k : Nat, k ≤ bss.length ∧ i = .int .i64 k ∧ Own 5 w' x ((bss.take k).flatten.map u8) ∧ Fresh w.heap.size x ∧ Below w.heap.size w w') (fun _ i _ => bss.length - (intOf i).toNat) ⟨0, by omega, rfl, by simpa using ho1, hf1, hb1⟩ ?_
    rintro x _ w2 ⟨k, hk, rfl, ho2, hf2, hb2⟩ J' hJ'
    dsimp only [List.headD_cons, List.tail_cons]
    (repeat with_reducible first|refine z_a ?_|refine z_b ?_|refine z_c ?_|refine z_d ?_|refine z_e ?_|refine z_f ?_|refine z_g ?_|refine z_h ?_|refine z_i ?_|refine z_j ?_|refine z_k ?_|refine z_l ?_|refine z_m (by omega) ?_|refine z_n (by omega) ?_|refine z_o (by omega) ?_|refine z_p (by omega) ?_|refine z_q (by omega) ?_|refine z_r (by omega) ?_|refine z_s (by omega) ?_|refine z_t (by omega) ?_|refine z_u (by omega) ?_|refine z_v (by omega) ?_|refine z_w (by omega) ?_|refine z_x (by omega) ?_|refine z_y (by omega) ?_|refine z_z (by omega) ?_|refine z_A ?_|refine z_B ?_|refine z_C ?_|refine z_D ?_|refine z_E ?_|refine z_F ?_|refine z_G ?_|refine z_H ?_|refine z_I ?_|refine z_J ?_|refine z_K (by omega) (by decide) ?_|refine z_L (by omega) (by decide) ?_|refine z_M (by omega) ?_|refine z_N (by omega) ?_|refine z_O (by omega) ?_|refine z_P ?_|refine z_Q ?_|refine z_R ?_|refine z_S ?_|refine z_T ?_|refine z_U (by decide) ?_|refine z_V (by decide) ?_)
    (first | refine bi_lss_c (fun h => ?_) (fun h => ?_) | refine bi_eql_c (fun h => ?_) (fun h => ?_) | refine bi_neq_c (fun h => ?_) (fun h => ?_) | refine bi_gtr_c (fun h => ?_) (fun h => ?_) | refine bi_leq_c (fun h => ?_) (fun h => ?_) | refine bi_geq_c (fun h => ?_) (fun h => ?_) | refine bi_seql_c (fun h => ?_) (fun h => ?_) | refine bi_sneq_c (fun h => ?_) (fun h => ?_))
    · have hk' : k < bss.length := by omega
      have hk2 := Frame.flat_le bss (k + 1)
      rw [Frame.flat_take bss k hk', List.length_append] at hk2
      obtain ⟨a, A', n', c', rfl, hca, hrb⟩ := (hv.below hb2).at k hk'
      (repeat with_reducible first | refine ix1 undSS szB hk' ?_| refine ld oneBB hca ?_|refine z_a ?_|refine z_b ?_|refine z_c ?_|refine z_d ?_|refine z_e ?_|refine z_f ?_|refine z_g ?_|refine z_h ?_|refine z_i ?_|refine z_j ?_|refine z_k ?_|refine z_l ?_|refine z_m (by omega) ?_|refine z_n (by omega) ?_|refine z_o (by omega) ?_|refine z_p (by omega) ?_|refine z_q (by omega) ?_|refine z_r (by omega) ?_|refine z_s (by omega) ?_|refine z_t (by omega) ?_|refine z_u (by omega) ?_|refine z_v (by omega) ?_|refine z_w (by omega) ?_|refine z_x (by omega) ?_|refine z_y (by omega) ?_|refine z_z (by omega) ?_|refine z_A ?_|refine z_B ?_|refine z_C ?_|refine z_D ?_|refine z_E ?_|refine z_F ?_|refine z_G ?_|refine z_H ?_|refine z_I ?_|refine z_J ?_|refine z_K (by omega) (by decide) ?_|refine z_L (by omega) (by decide) ?_|refine z_M (by omega) ?_|refine z_N (by omega) ?_|refine z_O (by omega) ?_|refine z_P ?_|refine z_Q ?_|refine z_R ?_|refine z_S ?_|refine z_T ?_|refine z_U (by decide) ?_|refine z_V (by decide) ?_)
      refine apF w.heap.size undB inf5 (by rfl) (by decide) ho2 hf2 hb2.size hrb (u8_one _) (by simp only [List.length_map]; omega) ?_
      intro v3 w3 ho3 hf3 hb3 _
      (repeat with_reducible first|refine z_a ?_|refine z_b ?_|refine z_c ?_|refine z_d ?_|refine z_e ?_|refine z_f ?_|refine z_g ?_|refine z_h ?_|refine z_i ?_|refine z_j ?_|refine z_k ?_|refine z_l ?_|refine z_m (by omega) ?_|refine z_n (by omega) ?_|refine z_o (by omega) ?_|refine z_p (by omega) ?_|refine z_q (by omega) ?_|refine z_r (by omega) ?_|refine z_s (by omega) ?_|refine z_t (by omega) ?_|refine z_u (by omega) ?_|refine z_v (by omega) ?_|refine z_w (by omega) ?_|refine z_x (by omega) ?_|refine z_y (by omega) ?_|refine z_z (by omega) ?_|refine z_A ?_|refine z_B ?_|refine z_C ?_|refine z_D ?_|refine z_E ?_|refine z_F ?_|refine z_G ?_|refine z_H ?_|refine z_I ?_|refine z_J ?_|refine z_K (by omega) (by decide) ?_|refine z_L (by omega) (by decide) ?_|refine z_M (by omega) ?_|refine z_N (by omega) ?_|refine z_O (by omega) ?_|refine z_P ?_|refine z_Q ?_|refine z_R ?_|refine z_S ?_|refine z_T ?_|refine z_U (by decide) ?_|refine z_V (by decide) ?_)
      refine hJ' _ _ _ ⟨k + 1, by omega, by simp, ?_, hf3, hb2.trans hb3⟩ (by simp [intOf]; omega)
      rw [Frame.flat_take bss k hk', List.map_append]
      exact ho3
    · have hkl : k = bss.length := by omega
      subst hkl
      (repeat with_reducible first|refine z_a ?_|refine z_b ?_|refine z_c ?_|refine z_d ?_|refine z_e ?_|refine z_f ?_|refine z_g ?_|refine z_h ?_|refine z_i ?_|refine z_j ?_|refine z_k ?_|refine z_l ?_|refine z_m (by omega) ?_|refine z_n (by omega) ?_|refine z_o (by omega) ?_|refine z_p (by omega) ?_|refine z_q (by omega) ?_|refine z_r (by omega) ?_|refine z_s (by omega) ?_|refine z_t (by omega) ?_|refine z_u (by omega) ?_|refine z_v (by omega) ?_|refine z_w (by omega) ?_|refine z_x (by omega) ?_|refine z_y (by omega) ?_|refine z_z (by omega) ?_|refine z_A ?_|refine z_B ?_|refine z_C ?_|refine z_D ?_|refine z_E ?_|refine z_F ?_|refine z_G ?_|refine z_H ?_|refine z_I ?_|refine z_J ?_|refine z_K (by omega) (by decide) ?_|refine z_L (by omega) (by decide) ?_|refine z_M (by omega) ?_|refine z_N (by omega) ?_|refine z_O (by omega) ?_|refine z_P ?_|refine z_Q ?_|refine z_R ?_|refine z_S ?_|refine z_T ?_|refine z_U (by decide) ?_|refine z_V (by decide) ?_)
      rw [List.take_length] at ho2
      exact ⟨ho2, hf2, hb2⟩

end Go.Proofs.Ythicbfopjakiiaa.E
namespace Go.Proofs.Ythicbfopjakiiaa.Pack
def num (n : Nat) : List UInt8 := if h : n ≤ 127 then [UInt8.ofNat n] else (UInt8.ofNat n ||| 128) :: num (n / 128)
termination_by n
decreasing_by all_goals omega
theorem num_small (n : Nat) (h : n ≤ 127) : num n = [UInt8.ofNat n] := by rw [num, dif_pos h]
theorem num_big (n : Nat) (h : ¬ n ≤ 127) : num n = (UInt8.ofNat n ||| 128) :: num (n / 128) := by rw [num, dif_neg h]
theorem num_length (n : Nat) : (num n).length ≤ n + 1 := by
  induction n using Nat.strongRecOn with
  | _ n ih =>
    by_cases h : n ≤ 127
    · rw [num_small n h]; simp
    · rw [num_big n h, List.length_cons]
      have := ih (n / 128) (by omega)
      omega
def text (s : ByteArray) : List UInt8 := num s.data.toList.length ++ s.data.toList
def texts (l : List ByteArray) : List UInt8 := num l.length ++ (l.map text).flatten
theorem num_log (k : Nat) : ∀ n, n < 128 ^ (k + 1) → (num n).length ≤ k + 1 := by
  induction k with
  | zero =>
    intro n h
    rw [num_small n (by simp at h; omega)]; simp
  | succ k ih =>
    intro n h
    by_cases hs : n ≤ 127
    · rw [num_small n hs]; simp
    · rw [num_big n hs, List.length_cons]
      have := ih (n / 128) (by rw [Nat.pow_succ] at h; omega)
      omega
end Go.Proofs.Ythicbfopjakiiaa.Pack
namespace Go.Proofs.Ythicbfopjakiiaa.Pack
theorem or128_low (m : Nat) : UInt8.ofNat m ||| 128 = UInt8.ofNat (m % 128) ||| 128 := by
  have h : ∀ i : Fin 256, UInt8.ofNat i.val ||| 128 = UInt8.ofNat (i.val % 128) ||| 128 := by decide +kernel
  have h1 : UInt8.ofNat m = UInt8.ofNat (m % 256) := by
    apply UInt8.toNat_inj.1; simp only [UInt8.toNat_ofNat']; omega
  rw [h1, h ⟨m % 256, by omega⟩]
  rw [show (m % 256) % 128 = m % 128 from by omega]
end Go.Proofs.Ythicbfopjakiiaa.Pack
