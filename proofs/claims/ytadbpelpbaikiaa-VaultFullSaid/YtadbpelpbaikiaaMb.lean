import Derived.Test.YtadbpelpbaikiaaM4
import Derived.Test.YtadbpelpbaikiaaM9
import Derived.Test.YtadbpelpbaikiaaMa
namespace Go.Proofs.Ytadbpelpbaikiaa.E
open Go Go.RowKit
set_option linter.unusedSimpArgs false
set_option linter.unusedVariables false

theorem undT : Try.prog.underlying 9 = some .string := by kernel_rfl
theorem oneT : oneB Try.prog 9 = true := by kernel_rfl
theorem oneN : oneB Try.prog 3 = true := by kernel_rfl
theorem szT : (Try.prog.info? 9).map (·.size) = some 1 := by kernel_rfl
theorem szN : (Try.prog.info? 3).map (·.size) = some 1 := by kernel_rfl
theorem t0 : fofs Try.prog 37 0 = some (0, 1) := by kernel_rfl
theorem t1 : fofs Try.prog 37 1 = some (1, 1) := by kernel_rfl
/-- A number from 0 on, as digits. -/
def digV (n : Nat) : Txt := if h : n ≤ 9 then [UInt8.ofNat (48 + n)] else digV (n / 10) ++ [UInt8.ofNat (48 + n % 10)]
termination_by n
decreasing_by omega
theorem dig_at (i : Nat) (h : i ≤ 9) : (([48, 49, 50, 51, 52, 53, 54, 55, 56, 57] : Txt).drop i).take (i + 1 - i) = [UInt8.ofNat (48 + i)] := by
  have : i = 0 ∨ i = 1 ∨ i = 2 ∨ i = 3 ∨ i = 4 ∨ i = 5 ∨ i = 6 ∨ i = 7 ∨ i = 8 ∨ i = 9 := by omega
  rcases this with h | h | h | h | h | h | h | h | h | h <;> subst h <;> rfl
theorem Digits20 (n : Nat) (w : World) (hn : n ≤ 1000000) : CallP Try.prog 20 #[.int .i64 n] (fun r w' => r = tS (digV n) ∧ w' = w) w := by
  refine ⟨S20.calls _ _ _ ?_⟩
  unfold S20
  refine LoopP.inv2 (fun nv sv w' => ∃ (m : Nat) (s : Txt), m ≤ n ∧ nv = .int .i64 m ∧ sv = tS s ∧ digV n = digV m ++ s ∧ s.length ≤ n - m ∧ w' = w) (fun nv _ _ => (intOf nv).toNat) ⟨n, [], Nat.le_refl _, rfl, rfl, by simp, by simp, rfl⟩ ?_
  rintro _ _ _ ⟨m, s, hm, rfl, rfl, hd, hs, rfl⟩ J hJ
  dsimp only [List.headD_cons, List.tail_cons]
  have e10 : (tS [48, 49, 50, 51, 52, 53, 54, 55, 56, 57] : Value) = .string { data := #[48, 49, 50, 51, 52, 53, 54, 55, 56, 57] } := rfl
  refine bi_gtr_c (fun h => ?_) (fun h => ?_)
  · (repeat with_reducible first|refine z_b ?_|refine z_o (by omega) ?_|refine z_N (by omega) ?_)
    rw [← e10]
    rw [show (m : Int) % 10 + 1 = ((m % 10 + 1 : Nat) : Int) by omega, show (m : Int) % 10 = ((m % 10 : Nat) : Int) by omega]
    refine cutTB undT (m % 10) (m % 10 + 1) (by omega) (by simp; omega) ?_
    rw [dig_at (m % 10) (by omega)]
    refine adT (by simp; omega) ?_
    (repeat with_reducible first|refine z_M (by omega) ?_)
    refine hJ _ _ _ ⟨m / 10, _, by omega, by simp, rfl, ?_, by simp; omega, rfl⟩ (by simp [intOf]; omega)
    rw [hd]
    conv => lhs; rw [digV, dif_neg (by omega)]
    rw [List.append_assoc]
  · have hm9 : m ≤ 9 := by omega
    (repeat with_reducible first|refine z_c ?_|refine z_n (by omega) ?_|refine z_o (by omega) ?_)
    rw [← e10]
    rw [show (m : Int) + 1 = ((m + 1 : Nat) : Int) by omega]
    refine cutTB undT m (m + 1) (by omega) (by simp; omega) ?_
    rw [dig_at m hm9]
    refine adT (by simp; omega) ?_
    refine ⟨?_, rfl⟩
    rw [hd]
    conv => rhs; rw [digV, dif_pos hm9]
def tpC (s : Txt) (n : Int) : Array Value := #[tS s, .int .i64 n]
theorem TapeDo62 (gt : Nat) (s cmd : Txt) (n : Int) (w : World) (hB : Blk w gt 37 (tpC s n)) (hs : s.length + cmd.length ≤ 900000) (hn : -1000000 ≤ n ∧ n ≤ 1000000) :
    CallP Try.prog 62 #[.pointer (some ⟨gt, 0, none⟩), tS cmd] (fun r w' => r = tS (digV s.length) ∧ Blk w' gt 37 (tpC (s ++ cmd ++ [124]) (n + 1)) ∧ Turns (fun k => k = gt) w w') w := by
  refine ⟨S62.calls _ _ _ _ ?_⟩
  unfold S62
  have c0 : w.cell? ⟨gt, 0, none⟩ = some (tS s) := hB.cell 0
  (repeat with_reducible first|refine fd t0 (by decide) ?_|refine ld oneT c0 ?_|refine z_a ?_)
  refine lnT undT ?_
  (repeat with_reducible first|refine fd t0 (by decide) ?_|refine ld oneT c0 ?_|refine z_a ?_)
  refine adT (by omega) ?_
  refine adT (a := s ++ cmd) (b := [124]) (by rw [List.length_append]; simp; omega) ?_
  (repeat with_reducible first|refine fd t0 (by decide) ?_|refine z_a ?_)
  refine st szT rfl (by rw [c0]; rfl) (hB.frozen 0) ?_
  have hB1 := hB.set_ 0 (tS (s ++ cmd ++ [124]))
  have hT1 := Turns.setCell (F := fun k => k = gt) (p := ⟨gt, 0, none⟩) (Turns.refl _ w) (.inl rfl) (tS (s ++ cmd ++ [124]))
  generalize w.setCell ⟨gt, 0, none⟩ (tS (s ++ cmd ++ [124])) = w1 at *
  have c1 : w1.cell? ⟨gt, 1, none⟩ = some (.int .i64 n) := hB1.cell 1
  (repeat with_reducible first|refine fd t1 (by decide) ?_|refine ld oneN c1 ?_|refine z_a ?_|refine z_o (by omega) ?_)
  refine st szN rfl (by rw [c1]; rfl) (hB1.frozen 1) ?_
  have hB2 := hB1.set_ 1 (.int .i64 (n + 1))
  have hT2 := hT1.setCell (p := ⟨gt, 1, none⟩) (.inl rfl) (.int .i64 (n + 1))
  generalize w1.setCell ⟨gt, 1, none⟩ (.int .i64 (n + 1)) = w2 at *
  refine (Digits20 s.length w2 (by omega)).mono ?_
  rintro _ _ ⟨rfl, rfl⟩
  exact ⟨rfl, hB2, hT2⟩
def ldOk (st : Txt) : Bool := decide (st.head? = some 61)
theorem TapeLoad63 (gt : Nat) (s st_ : Txt) (n : Int) (w : World) (hB : Blk w gt 37 (tpC s n)) :
    CallP Try.prog 63 #[.pointer (some ⟨gt, 0, none⟩), tS st_] (fun r w' => r = .bool (ldOk st_) ∧ Blk w' gt 37 (tpC (if ldOk st_ = true then st_.drop 1 else s) n) ∧ Turns (fun k => k = gt) w w') w := by
  refine ⟨S63.calls _ _ _ _ ?_⟩
  unfold S63
  refine tl_eql0_c (fun h => ?_) (fun h => ?_)
  · (repeat with_reducible first|refine z_b ?_|refine z_f ?_|refine z_k ?_)
    subst h
    exact ⟨rfl, hB, Turns.refl _ _⟩
  obtain ⟨a, r, rfl⟩ : ∃ a r, st_ = a :: r := by
    cases st_ with
    | nil => exact absurd rfl h
    | cons a r => exact ⟨a, r, rfl⟩
  (repeat with_reducible first|refine z_d ?_)
  refine ixT undT (kd := .i64) 0 (by simp) ?_
  (repeat with_reducible first|refine z_d ?_)
  unfold u8
  refine bi_neq_c (fun h1 => ?_) (fun h1 => ?_)
  · have h2 : ldOk (a :: r) = false := by
      unfold ldOk
      rw [decide_eq_false]
      intro e
      have e : a = 61 := by simpa using e
      subst e
      exact h1 rfl
    (repeat with_reducible first|refine z_b ?_|refine z_l ?_)
    rw [h2]
    exact ⟨rfl, hB, Turns.refl _ _⟩
  · have h2 : ldOk (a :: r) = true := by
      unfold ldOk
      rw [decide_eq_true_iff]
      have h1 : (((a :: r)[0]).toNat : Int) = 61 := h1
      have h3 : (a.toNat : Int) = 61 := by simpa using h1
      have : a.toNat = 61 := by omega
      have e : a = 61 := UInt8.toNat_inj.1 this
      rw [e]; rfl
    (repeat with_reducible first|refine z_c ?_|refine z_l ?_)
    refine cutTF undT (a := a :: r) 1 (by simp) ?_
    (repeat with_reducible first|refine fd t0 (by decide) ?_|refine z_a ?_)
    refine st szT rfl (by rw [hB.cell 0]; rfl) (hB.frozen 0) ?_
    rw [h2]
    exact ⟨rfl, hB.set_ 0 _, Turns.setCell (F := fun k => k = gt) (p := ⟨gt, 0, none⟩) (Turns.refl _ w) (.inl rfl) _⟩
theorem TapeSave64 (gt : Nat) (s : Txt) (n : Int) (w : World) (hB : Blk w gt 37 (tpC s n)) (hs : s.length ≤ 900000) :
    CallP Try.prog 64 #[.pointer (some ⟨gt, 0, none⟩)] (fun r w' => r = tS (61 :: s) ∧ w' = w) w := by
  refine ⟨S64.calls _ _ _ ?_⟩
  unfold S64
  have c0 : w.cell? ⟨gt, 0, none⟩ = some (tS s) := hB.cell 0
  (repeat with_reducible first|refine fd t0 (by decide) ?_|refine ld oneT c0 ?_|refine z_a ?_)
  refine adT (a := [61]) (b := s) (by simp; omega) ?_
  exact ⟨rfl, rfl⟩
def allV (l : List Txt) : Txt := (l.map fun c => c ++ [124]).flatten
theorem allV_append (a b : List Txt) : allV (a ++ b) = allV a ++ allV b := by simp [allV]
theorem allV_one (c : Txt) : allV [c] = c ++ [124] := by simp [allV]
theorem allV_len (l : List Txt) : (allV l).length = l.flatten.length + l.length := by
  induction l with
  | nil => rfl
  | cons a t ih =>
    have : allV (a :: t) = a ++ [124] ++ allV t := by simp [allV]
    rw [this, List.length_append, List.length_append, ih]
    simp only [List.flatten_cons, List.length_append, List.length_cons, List.length_nil]
    omega
theorem undE25 : Try.prog.underlying 75 = some (.slice 25) := by kernel_rfl
theorem szE25 : (Try.prog.info? 25).map (·.size) = some 1 := by kernel_rfl
theorem oneE25 : oneB Try.prog 25 = true := by kernel_rfl
theorem Or33 (v : Value) (a : Int) (w : World) (hv : Rd w v [.int .i64 a, .int .i64 0]) : CallP Try.prog 33 #[v] (fun r w' => r = .int .i64 a ∧ w' = w) w := by
  obtain ⟨A, c, rfl, _⟩ := hv.slice
  refine ⟨S33.calls _ _ _ ?_⟩
  unfold S33
  refine ln undE25 ?_
  refine LoopP.inv1 (fun iv w' => ∃ i : Nat, i ≤ 2 ∧ iv = .int .i64 i ∧ (1 ≤ i → a = 0) ∧ w' = w) (fun iv _ => 2 - (intOf iv).toNat) ⟨0, by omega, rfl, by omega, rfl⟩ ?_
  rintro _ w' ⟨i, hi, rfl, ha, rfl⟩ J hJ
  dsimp only [List.headD_cons, List.tail_cons]
  have hl : ([Value.int .i64 a, .int .i64 0] : List Value).length = 2 := rfl
  rw [hl]
  refine bi_lss_c (fun h => ?_) (fun h => ?_)
  · have hi' : i = 0 ∨ i = 1 := by omega
    rcases hi' with rfl | rfl
    · obtain ⟨p, rfl, hp⟩ := hv.at 0 (by simp)
      (repeat with_reducible first|refine z_b ?_)
      refine ix1 undE25 szE25 (i := 0) (by omega) ?_
      refine ld oneE25 hp ?_
      refine bi_neq_c (fun h1 => ?_) (fun h1 => ?_)
      · (repeat with_reducible first|refine z_b ?_)
        exact ⟨rfl, rfl⟩
      · (repeat with_reducible first|refine z_c ?_|refine z_o (by omega) ?_)
        exact hJ _ _ ⟨1, by omega, rfl, fun _ => h1, rfl⟩ (by simp [intOf])
    · obtain ⟨p, rfl, hp⟩ := hv.at 1 (by simp)
      have hp : w'.cell? (p.add 1) = some (.int .i64 0) := hp
      (repeat with_reducible first|refine z_b ?_)
      refine ix1 undE25 szE25 (i := 1) (by omega) ?_
      refine ld oneE25 hp ?_
      (repeat with_reducible first|refine z_c ?_|refine z_o (by omega) ?_|refine z_t (by omega) ?_)
      exact hJ _ _ ⟨2, by omega, rfl, fun _ => ha (by omega), rfl⟩ (by simp [intOf])
  · (repeat with_reducible first|refine z_c ?_)
    exact ⟨by rw [ha (by omega)], rfl⟩
end Go.Proofs.Ytadbpelpbaikiaa.E
namespace Go.Proofs.Ytadbpelpbaikiaa.E
open Go Go.RowKit
set_option linter.unusedSimpArgs false
set_option linter.unusedVariables false

theorem mDo (gt : Nat) (w : World) : (method (Try.prog.types.size + Made.depth) 35 (.pointer (some ⟨gt, 0, none⟩)) "Do").run Try.prog w = .ok (62, .pointer (some ⟨gt, 0, none⟩)) w := by kernel_rfl
theorem mLoad (gt : Nat) (w : World) : (method (Try.prog.types.size + Made.depth) 35 (.pointer (some ⟨gt, 0, none⟩)) "Load").run Try.prog w = .ok (63, .pointer (some ⟨gt, 0, none⟩)) w := by kernel_rfl
theorem mSave (gt : Nat) (w : World) : (method (Try.prog.types.size + Made.depth) 35 (.pointer (some ⟨gt, 0, none⟩)) "Save").run Try.prog w = .ok (64, .pointer (some ⟨gt, 0, none⟩)) w := by kernel_rfl
theorem v0 : fofs Try.prog 66 0 = some (0, 1) := by kernel_rfl
theorem v1 : fofs Try.prog 66 1 = some (1, 1) := by kernel_rfl
theorem v2 : fofs Try.prog 66 2 = some (2, 1) := by kernel_rfl
theorem oneDp : oneB Try.prog 24 = true := by kernel_rfl
theorem oneMc : oneB Try.prog 63 = true := by kernel_rfl
theorem undTp : Try.prog.underlying 35 = some (.pointer 37) := by kernel_rfl
theorem undVp : Try.prog.underlying 32 = some (.pointer 66) := by kernel_rfl
/-- A disk of one colour. -/
def DkH (h : Nat) (c : Nat → Nat) (w : World) (gd : Nat) (d : Dk) : Prop := ∃ cd : Nat → Nat, (∀ k, cd k ≠ 0 → c k = h) ∧ DiskC cd w gd d
/-- A vault: its disk, what its machine's tape holds, how many commands it did. -/
structure VsT where
  d : Dk
  s : Txt
  n : Int
  m : Int
def vtC (gd gt : Nat) (m : Int) : Array Value := #[.pointer (some ⟨gd, 0, none⟩), .iface 35 (.pointer (some ⟨gt, 0, none⟩)), .int .i64 m]
/-- A vault in memory, of one colour. -/
def VlH (h : Nat) (c : Nat → Nat) (w : World) (g gd gt : Nat) (V : VsT) : Prop := ∃ cd : Nat → Nat, (∀ k, cd k ≠ 0 → c k = h) ∧ DiskC cd w gd V.d ∧ (c g = h ∧ cd g = 0 ∧ Blk w g 66 (vtC gd gt V.m)) ∧ (c gt = h ∧ cd gt = 0 ∧ Blk w gt 37 (tpC V.s V.n))
section
variable {h : Nat} {c c' : Nat → Nat} {w w' : World} {g gd gt : Nat} {V : VsT} {d : Dk}
theorem DkH.turns {G : Nat → Prop} (hD : DkH h c w gd d) (hT : Turns G w w') (hG : ∀ k, G k → c k ≠ h) : DkH h c w' gd d := by
  obtain ⟨cd, h1, h2⟩ := hD
  exact ⟨cd, h1, h2.turns hT fun k hk => Classical.byContradiction fun e => hG k hk (h1 k e)⟩
theorem DkH.below (hD : DkH h c w gd d) (hb : Below w.heap.size w w') : DkH h c w' gd d := hD.turns (G := fun _ => False) (Turns.of_below hb) fun _ h => h.elim
theorem cut_col {cd c c' : Nat → Nat} {h n : Nat} (h1 : ∀ k, cd k ≠ 0 → c k = h) (hc : ∀ k, k < n → c' k = c k) : ∀ k, (if k < n then cd k else 0) ≠ 0 → c' k = h := fun k hk => by
  by_cases e : k < n
  · rw [if_pos e] at hk
    rw [hc k e]
    exact h1 k hk
  · rw [if_neg e] at hk
    exact absurd rfl hk
theorem DkH.re (hD : DkH h c w gd d) (hc : ∀ k, k < w.heap.size → c' k = c k) : DkH h c' w gd d := by
  obtain ⟨cd, h1, h2⟩ := hD
  exact ⟨fun k => if k < w.heap.size then cd k else 0, cut_col h1 hc, h2.re fun k hk => if_pos hk⟩
theorem VlH.turns {G : Nat → Prop} (hV : VlH h c w g gd gt V) (hT : Turns G w w') (hG : ∀ k, G k → c k ≠ h) : VlH h c w' g gd gt V := by
  obtain ⟨cd, h1, h2, ⟨h3, h4, h5⟩, h6, h7, h8⟩ := hV
  exact ⟨cd, h1, h2.turns hT fun k hk => Classical.byContradiction fun e => hG k hk (h1 k e), ⟨h3, h4, h5.turns hT fun e => hG g e h3⟩, h6, h7, h8.turns hT fun e => hG gt e h6⟩
theorem VlH.below (hV : VlH h c w g gd gt V) (hb : Below w.heap.size w w') : VlH h c w' g gd gt V := hV.turns (G := fun _ => False) (Turns.of_below hb) fun _ h => h.elim
theorem VlH.re (hV : VlH h c w g gd gt V) (hc : ∀ k, k < w.heap.size → c' k = c k) : VlH h c' w g gd gt V := by
  obtain ⟨cd, h1, h2, ⟨h3, h4, h5⟩, h6, h7, h8⟩ := hV
  refine ⟨fun k => if k < w.heap.size then cd k else 0, cut_col h1 hc, h2.re fun k hk => if_pos hk, ⟨(hc g h5.lt).trans h3, ?_, h5⟩, (hc gt h8.lt).trans h6, ?_, h8⟩
  · show (if g < w.heap.size then cd g else 0) = 0
    rw [if_pos h5.lt]; exact h4
  · show (if gt < w.heap.size then cd gt else 0) = 0
    rw [if_pos h8.lt]; exact h7
end
/-- What a call leaves, of one colour. -/
def Lft (h : Nat) (c : Nat → Nat) (w : World) (Q : (Nat → Nat) → World → Prop) (w' : World) : Prop := ∃ c', (∀ k, k < w.heap.size → c' k = c k) ∧ Q c' w' ∧ Turns (fun k => c k = h) w w'
section
variable {h : Nat} {c : Nat → Nat} {w w1 w' : World} {g gd gt : Nat} {V : VsT} {d d' : Dk} {Q : (Nat → Nat) → World → Prop}
theorem Lft.then (hb : Below w.heap.size w w1) (hL : Lft h c w1 Q w') : Lft h c w Q w' := by
  obtain ⟨c', h1, h2, h3⟩ := hL
  exact ⟨c', fun k hk => h1 k (Nat.lt_of_lt_of_le hk hb.size), h2, (Turns.of_below hb).trans (h3.mono fun k _ e => .inl e)⟩
/-- The disk's part of a step. -/
theorem disk_step {cd : Nat → Nat} (h1 : ∀ k, cd k ≠ 0 → c k = h) (hL : Left cd w gd d' w') : ∃ (c' cd' : Nat → Nat), (∀ k, k < w.heap.size → c' k = c k) ∧ (∀ k, k < w.heap.size → cd' k = cd k) ∧ (∀ k, cd' k ≠ 0 → c' k = h) ∧ DiskC cd' w' gd d' ∧ Turns (D cd) w w' ∧ Turns (fun k => c k = h) w w' := by
  obtain ⟨cd', h2, h3, h4⟩ := hL
  refine ⟨fun k => if k < w.heap.size then c k else if cd' k = 0 then 0 else h, cd', fun k hk => if_pos hk, h2, fun k hk => ?_, h3, h4, h4.mono fun k _ e => h1 k e⟩
  by_cases e : k < w.heap.size
  · simp only [if_pos e]
    exact h1 k (by rw [← h2 k e]; exact hk)
  · simp only [if_neg e, if_neg hk]
theorem DkH.step (hL : ∀ cd, (∀ k, cd k ≠ 0 → c k = h) → DiskC cd w gd d → Left cd w gd d' w') (hD : DkH h c w gd d) : Lft h c w (fun c' w' => DkH h c' w' gd d') w' := by
  obtain ⟨cd, h1, h2⟩ := hD
  obtain ⟨c', cd', e1, e2, e3, e4, e5, e6⟩ := disk_step h1 (hL cd h1 h2)
  exact ⟨c', e1, ⟨cd', e3, e4⟩, e6⟩
theorem VlH.stepD {cd : Nat → Nat} (h1 : ∀ k, cd k ≠ 0 → c k = h) (h3 : c g = h ∧ cd g = 0 ∧ Blk w g 66 (vtC gd gt V.m)) (h6 : c gt = h ∧ cd gt = 0 ∧ Blk w gt 37 (tpC V.s V.n)) (hL : Left cd w gd d' w') :
    Lft h c w (fun c' w' => VlH h c' w' g gd gt { V with d := d' }) w' := by
  obtain ⟨c', cd', e1, e2, e3, e4, e5, e6⟩ := disk_step h1 hL
  have b1 := h3.2.2.lt
  have b2 := h6.2.2.lt
  exact ⟨c', e1, ⟨cd', e3, e4, ⟨(e1 g b1).trans h3.1, (e2 g b1).trans h3.2.1, h3.2.2.turns e5 fun e => e h3.2.1⟩, (e1 gt b2).trans h6.1, (e2 gt b2).trans h6.2.1, h6.2.2.turns e5 fun e => e h6.2.1⟩, e6⟩
end
/-- A command done. -/
def VsT.did (V : VsT) (cmd : Txt) : VsT := { V with s := V.s ++ cmd ++ [124], n := V.n + 1, m := V.m + 1 }
theorem done31 {h : Nat} {c : Nat → Nat} {w : World} {g gd gt : Nat} {V : VsT} (hV : VlH h c w g gd gt V) (cmd : Txt) (hs : V.s.length + cmd.length ≤ 900000) (hn : -1000000 ≤ V.n ∧ V.n ≤ 1000000) (hm : -1000000 ≤ V.m ∧ V.m ≤ 1000000) :
    CallP Try.prog 31 #[.pointer (some ⟨g, 0, none⟩), tS cmd] (fun r w' => r = tS (digV V.s.length) ∧ VlH h c w' g gd gt (V.did cmd) ∧ Turns (fun k => k = g ∨ k = gt) w w' ∧ Turns (fun k => c k = h) w w') w := by
  obtain ⟨cd, h1, h2, ⟨h3, h4, h5⟩, h6, h7, h8⟩ := hV
  have hne : g ≠ gt := blk_ne h5 h8 (by decide)
  refine ⟨S31.calls _ _ _ _ ?_⟩
  unfold S31
  have c2 : w.cell? ⟨g, 2, none⟩ = some (.int .i64 V.m) := h5.cell 2
  (repeat with_reducible first|refine fd v2 (by decide) ?_|refine ld oneN c2 ?_|refine z_a ?_|refine z_o (by omega) ?_)
  refine st szN rfl (by rw [c2]; rfl) (h5.frozen 2) ?_
  have hB1 := h5.set_ 2 (.int .i64 (V.m + 1))
  have hT1 := Turns.setCell (F := fun k => k = g) (p := ⟨g, 2, none⟩) (Turns.refl _ w) (.inl rfl) (.int .i64 (V.m + 1))
  have hD1 := h2.turns hT1 fun k e => by rw [e]; exact h4
  have hTp1 := h8.turns hT1 fun e => hne e.symm
  generalize w.setCell ⟨g, 2, none⟩ (.int .i64 (V.m + 1)) = w1 at *
  have c1 : w1.cell? ⟨g, 1, none⟩ = some (.iface 35 (.pointer (some ⟨gt, 0, none⟩))) := hB1.cell 1
  (repeat with_reducible first|refine fd v1 (by decide) ?_|refine ld oneMc c1 ?_|refine z_a ?_)
  refine ivm (mDo gt w1) (by kernel_rfl) ?_
  refine (TapeDo62 gt V.s cmd V.n w1 hTp1 hs hn).mono ?_
  rintro _ w2 ⟨rfl, hB2, hT2⟩
  have hTT : Turns (fun k => k = g ∨ k = gt) w w2 := (hT1.mono fun k _ e => .inl e).trans (hT2.mono fun k _ e => .inl (.inr e))
  refine ⟨rfl, ⟨cd, h1, hD1.turns hT2 (fun k e => by rw [e]; exact h7), ⟨h3, h4, hB1.turns hT2 hne⟩, h6, h7, hB2⟩, hTT, hTT.mono fun k _ e => ?_⟩
  rcases e with e | e
  · rw [e]; exact h3
  · rw [e]; exact h6
theorem Sync19 {h : Nat} {c : Nat → Nat} {w : World} {g gd gt : Nat} {V : VsT} (hV : VlH h c w g gd gt V) (hsm : V.d.small) (hon : V.d.on = true) :
    CallP Try.prog 19 #[.pointer (some ⟨g, 0, none⟩)] (fun r w' => r = .int .i64 0 ∧ Lft h c w (fun c' w' => VlH h c' w' g gd gt { V with d := V.d.synced }) w') w := by
  obtain ⟨cd, h1, h2, h3, h6⟩ := hV
  refine ⟨S19.calls _ _ _ ?_⟩
  unfold S19
  have c0 : w.cell? ⟨g, 0, none⟩ = some (.pointer (some ⟨gd, 0, none⟩)) := h3.2.2.cell 0
  (repeat with_reducible first|refine fd v0 (by decide) ?_|refine ld oneDp c0 ?_|refine z_a ?_)
  refine (Sync_spec cd w gd V.d h2 hsm).mono ?_
  rintro _ w' ⟨rfl, hL⟩
  rw [hon] at hL ⊢
  exact ⟨rfl, VlH.stepD h1 h3 h6 hL⟩
/-- What a vault's Do leaves and answers. -/
def VsT.do_ (V : VsT) (cmd : Txt) : VsT := if appendAns V.d cmd = 0 then { V.did cmd with d := V.d.appended cmd } else V
theorem Do17 {h : Nat} {c : Nat → Nat} {w : World} {g gd gt : Nat} {V : VsT} (hV : VlH h c w g gd gt V) (cmd : Txt) (hsm : V.d.small) (hs : V.s.length + cmd.length ≤ 900000) (hn : -1000000 ≤ V.n ∧ V.n ≤ 1000000) (hm : -1000000 ≤ V.m ∧ V.m ≤ 1000000) :
    CallP Try.prog 17 #[.pointer (some ⟨g, 0, none⟩), tS cmd] (fun r w' => r = .tuple #[tS (if appendAns V.d cmd = 0 then digV V.s.length else []), .int .i64 (appendAns V.d cmd)] ∧ Lft h c w (fun c' w' => VlH h c' w' g gd gt (V.do_ cmd)) w') w := by
  have hV0 := hV
  obtain ⟨cd, h1, h2, h3, h6⟩ := hV
  refine ⟨S17.calls _ _ _ _ ?_⟩
  unfold S17
  have c0 : w.cell? ⟨g, 0, none⟩ = some (.pointer (some ⟨gd, 0, none⟩)) := h3.2.2.cell 0
  (repeat with_reducible first|refine fd v0 (by decide) ?_|refine ld oneDp c0 ?_|refine z_a ?_)
  refine cvSB undT und23 und5 (by rw [tsz]; omega) ?_
  intro vb w1 hvb hb1
  have hvb : RdB w1 vb cmd := by simpa using hvb
  have b1 := h3.2.2.below' hb1
  have b2 := h6.2.2.below' hb1
  refine (Append_spec cd w1 gd V.d vb cmd (h2.below hb1) hsm hvb).mono ?_
  rintro _ w2 ⟨rfl, hL⟩
  unfold VsT.do_
  by_cases ha : appendAns V.d cmd = 0
  · rw [if_pos ha] at hL
    rw [if_pos ha, if_pos ha, ha]
    obtain ⟨c2, e1, e2, e3⟩ := VlH.stepD h1 ⟨h3.1, h3.2.1, b1⟩ ⟨h6.1, h6.2.1, b2⟩ hL
    (repeat with_reducible first|refine z_c ?_|refine z_t (by omega) ?_)
    refine (done31 e2 cmd hs hn hm).mono ?_
    rintro _ w3 ⟨rfl, hV3, _, hT3⟩
    refine ⟨rfl, Lft.then hb1 ⟨c2, e1, hV3, e3.trans (hT3.mono fun k hk e => ?_)⟩⟩
    by_cases hk1 : k < w1.heap.size
    · exact .inl ((e1 k hk1).symm.trans e)
    · exact .inr (by omega)
  · rw [if_neg ha] at hL
    rw [if_neg ha, if_neg ha]
    (repeat with_reducible first|refine z_b ?_|refine z_s (by omega) ?_)
    exact ⟨rfl, Lft.then hb1 (VlH.stepD h1 ⟨h3.1, h3.2.1, b1⟩ ⟨h6.1, h6.2.1, b2⟩ hL)⟩
theorem Sure22 {h : Nat} {c : Nat → Nat} {w : World} {g gd gt : Nat} {V : VsT} (hV : VlH h c w g gd gt V) :
    CallP Try.prog 22 #[.pointer (some ⟨g, 0, none⟩)] (fun r w' => r = .bool (decide (V.d.waits.length = 0)) ∧ w = w') w := by
  obtain ⟨cd, h1, h2, h3, h6⟩ := hV
  refine ⟨S22.calls _ _ _ ?_⟩
  unfold S22
  have c0 : w.cell? ⟨g, 0, none⟩ = some (.pointer (some ⟨gd, 0, none⟩)) := h3.2.2.cell 0
  (repeat with_reducible first|refine fd v0 (by decide) ?_|refine ld oneDp c0 ?_|refine z_a ?_)
  refine (Waiting_spec cd w gd V.d h2).mono ?_
  rintro _ _ ⟨rfl, rfl⟩
  refine bi_eql_c (fun e => ?_) (fun e => ?_)
  · exact ⟨tB (by omega), rfl⟩
  · exact ⟨fB (by omega), rfl⟩
theorem Count14 {h : Nat} {c : Nat → Nat} {w : World} {g gd gt : Nat} {V : VsT} (hV : VlH h c w g gd gt V) :
    CallP Try.prog 14 #[.pointer (some ⟨g, 0, none⟩)] (fun r w' => r = .int .i64 V.m ∧ w = w') w := by
  obtain ⟨cd, h1, h2, h3, h6⟩ := hV
  refine ⟨S14.calls _ _ _ ?_⟩
  unfold S14
  have c2 : w.cell? ⟨g, 2, none⟩ = some (.int .i64 V.m) := h3.2.2.cell 2
  (repeat with_reducible first|refine fd v2 (by decide) ?_|refine ld oneN c2 ?_|refine z_a ?_)
  exact ⟨rfl, rfl⟩
/-- What Settle leaves. -/
def VsT.settled (V : VsT) : VsT := { V with d := if checkAns V.d.synced (61 :: V.s) = 0 then { V.d.synced with state := 61 :: V.s, log := [] } else V.d.synced }
theorem Settle18 {h : Nat} {c : Nat → Nat} {w : World} {g gd gt : Nat} {V : VsT} (hV : VlH h c w g gd gt V) (hsm : V.d.small) (hsm2 : V.d.synced.small) (hon : V.d.on = true) (hs : V.s.length ≤ 900000) :
    CallP Try.prog 18 #[.pointer (some ⟨g, 0, none⟩)] (fun r w' => r = .int .i64 (checkAns V.d.synced (61 :: V.s)) ∧ Lft h c w (fun c' w' => VlH h c' w' g gd gt V.settled) w') w := by
  refine ⟨S18.calls _ _ _ ?_⟩
  unfold S18
  refine (Sync19 hV hsm hon).mono ?_
  rintro _ w1 ⟨rfl, c1, e1, hV1, hT1⟩
  (repeat with_reducible first|refine z_c ?_|refine z_t (by omega) ?_)
  obtain ⟨cd, h1, h2, ⟨h3, h4, h5⟩, h6, h7, h8⟩ := hV1
  have hdr : Below w1.heap.size w1 w1.drew := (Below.refl _ _).drew
  have r0 : ∀ w', Blk w' g 66 (vtC gd gt V.m) → w'.cell? ⟨g, 0, none⟩ = some (.pointer (some ⟨gd, 0, none⟩)) := fun w' hB => hB.cell 0
  have r1 : ∀ w', Blk w' g 66 (vtC gd gt V.m) → w'.cell? ⟨g, 1, none⟩ = some (.iface 35 (.pointer (some ⟨gt, 0, none⟩))) := fun w' hB => hB.cell 1
  refine draw (fun w' => Blk w' g 66 (vtC gd gt V.m)) (h5.below' hdr) ?_
  (repeat with_reducible first|refine yfd v0 (by decide) ?_|refine yl1 oneDp r0 ?_|refine yfd v1 (by decide) ?_|refine yl1 oneMc r1 ?_|refine z_W ?_)
  refine act ?_
  refine ivm (mSave gt _) (by kernel_rfl) ?_
  refine (TapeSave64 gt V.s V.n w1.drew (h8.below' hdr) hs).mono ?_
  rintro _ _ ⟨rfl, rfl⟩
  refine ⟨_, h5.below' hdr, fun _ h => h, ?_⟩
  refine act ?_
  refine cvSB undT und23 und5 (by rw [tsz]; simp; omega) ?_
  intro vb w2 hvb hb2
  have hvb : RdB w2 vb (61 :: V.s) := by simpa using hvb
  have hb12 := below_then hdr hb2
  have b1 := h5.below' hb12
  have b2 := h8.below' hb12
  refine ⟨_, b1, fun _ h => h, ?_⟩
  refine act ?_
  refine (Checkpoint_spec cd w2 gd V.d.synced vb (61 :: V.s) (h2.below hb12) hsm2 hvb (by simp; omega)).mono ?_
  rintro _ w3 ⟨rfl, hL⟩
  have hL0 := hL
  obtain ⟨cd3, _, _, hT3⟩ := hL0
  have b1' := b1.turns hT3 fun e => e h4
  refine ⟨_, b1', fun _ h => h, ?_⟩
  have hst := VlH.stepD (V := { V with d := V.d.synced }) h1 ⟨h3, h4, b1⟩ ⟨h6, h7, b2⟩ hL
  refine act ?_
  refine lift (v := .slice (some ⟨w3.heap.size, 0, none⟩) 2 2) (w' := w3.alloc (.cells #[.int .i64 (checkAns V.d.synced (61 :: V.s)), .int .i64 0] 25)) (by kernel_rfl) ?_
  have hb4 := (Below.refl w3.heap.size w3).alloc (Nat.le_refl _) (.cells #[.int .i64 (checkAns V.d.synced (61 :: V.s)), .int .i64 0] 25)
  have hO4 := Own.new w3 25 [.int .i64 (checkAns V.d.synced (61 :: V.s)), .int .i64 0] (by simp)
  have e4 : w3.alloc (.cells ([Value.int .i64 (checkAns V.d.synced (61 :: V.s)), .int .i64 0] : List Value).toArray 25) = w3.alloc (.cells #[.int .i64 (checkAns V.d.synced (61 :: V.s)), .int .i64 0] 25) := rfl
  rw [e4] at hO4
  generalize w3.alloc (.cells #[.int .i64 (checkAns V.d.synced (61 :: V.s)), .int .i64 0] 25) = w4 at *
  refine ⟨_, b1'.below' hb4, fun _ h => h, ?_⟩
  refine act ?_
  refine (Or33 _ _ w4 hO4.rd).mono ?_
  rintro _ w4 ⟨rfl, rfl⟩
  refine ⟨_, b1'.below' hb4, fun _ h => h, ?_⟩
  refine ⟨rfl, ?_⟩
  obtain ⟨c3, f1, f2, f3⟩ := hst
  have hV3 : VlH h c3 w4 g gd gt V.settled := f2.below hb4
  have hT14 : Turns (fun k => c1 k = h) w1 w4 := ((Turns.of_below hb12).trans (f3.mono fun k _ e => .inl e)).trans (Turns.of_below hb4)
  have hs12 := hb12.size
  have hs1 := hT1.size
  refine ⟨c3, fun k hk => by rw [f1 k (by omega), e1 k hk], hV3, hT1.trans (hT14.mono fun k hk e => ?_)⟩
  by_cases hk1 : k < w.heap.size
  · exact .inl ((e1 k hk1).symm.trans e)
  · exact .inr (by omega)
end Go.Proofs.Ytadbpelpbaikiaa.E
