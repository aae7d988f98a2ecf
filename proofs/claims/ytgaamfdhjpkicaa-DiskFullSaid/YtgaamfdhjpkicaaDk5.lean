/- The disk as a law's own object; awake. -/
import Derived.Test.YtgaamfdhjpkicaaDk4
import Derived.Test.YtgaamfdhjpkicaaFrL9
import Derived.Test.YtgaamfdhjpkicaaFrL11
import Derived.Test.YtgaamfdhjpkicaaE15
namespace Go.Proofs.Ytgaamfdhjpkicaa.E
open Go Go.RowKit
set_option linter.unusedSimpArgs false
set_option linter.unusedVariables false

/-- A disk behind B. -/
def DiskB (B : Nat) (w : World) (g : Nat) (d : Dk) : Prop := B ≤ w.heap.size ∧ ∃ c, (∀ k, k < B → c k = 0) ∧ DiskC c w g d
section
variable {B : Nat} {w w' : World} {g : Nat} {d : Dk}
theorem DiskB.below (h : DiskB B w g d) (hb : Below w.heap.size w w') : DiskB B w' g d := by
  obtain ⟨h1, c, h2, h3⟩ := h
  exact ⟨Nat.le_trans h1 hb.size, c, h2, h3.below hb⟩
theorem Left.toB {c : Nat → Nat} (hB : B ≤ w.heap.size) (hc : ∀ k, k < B → c k = 0) (h : Left c w g d w') : DiskB B w' g d ∧ Below B w w' := by
  obtain ⟨c', h1, h2, h3⟩ := h
  exact ⟨⟨Nat.le_trans hB h3.size, c', fun k hk => (h1 k (Nat.lt_of_lt_of_le hk hB)).trans (hc k hk), h2⟩, h3.below hB fun k hk hF => hF (hc k hk)⟩
theorem Append_B (v : Value) (p : List UInt8) (h : DiskB B w g d) (hs : d.small) (hv : RdB w v p) :
    CallP Try.prog 36 #[.pointer (some ⟨g, 0, none⟩), v] (fun r w' => r = .int .i64 (appendAns d p) ∧ DiskB B w' g (if appendAns d p = 0 then d.appended p else d) ∧ Below B w w') w := by
  obtain ⟨h1, c, h2, h3⟩ := h
  refine (Append_spec c w g d v p h3 hs hv).mono ?_
  rintro r w' ⟨rfl, hL⟩
  exact ⟨rfl, hL.toB h1 h2⟩
theorem Sync_B (h : DiskB B w g d) (hs : d.small) (hon : d.on = true) :
    CallP Try.prog 37 #[.pointer (some ⟨g, 0, none⟩)] (fun r w' => r = .int .i64 0 ∧ DiskB B w' g d.synced ∧ Below B w w') w := by
  obtain ⟨h1, c, h2, h3⟩ := h
  refine (Sync_spec c w g d h3 hs).mono ?_
  rintro r w' ⟨rfl, hL⟩
  rw [hon] at hL ⊢
  exact ⟨rfl, hL.toB h1 h2⟩
theorem Crash_B (keep torn : Int) (h : DiskB B w g d) (hs : d.small) (hne : ∀ p ∈ d.waits, 0 < p.length) (hon : d.on = true) :
    CallP Try.prog 38 #[.pointer (some ⟨g, 0, none⟩), .int .i64 keep, .int .i64 torn] (fun r w' => r = .tuple #[] ∧ DiskB B w' g (d.crash keep torn) ∧ Below B w w') w := by
  obtain ⟨h1, c, h2, h3⟩ := h
  refine (Crash_spec c w g d keep torn h3 hs hne).mono ?_
  rintro r w' ⟨rfl, hL⟩
  rw [hon] at hL
  exact ⟨rfl, hL.toB h1 h2⟩
theorem Start_B (h : DiskB B w g d) (hs : d.small) (hon : d.on = false) :
    CallP Try.prog 35 #[.pointer (some ⟨g, 0, none⟩)] (fun r w' => ∃ x y, r = .tuple #[x, y, .int .i64 0] ∧ RowE w' w.heap.size y (Frame.scan d.log).1 ∧ DiskB B w' g d.started ∧ Below B w w') w := by
  obtain ⟨h1, c, h2, h3⟩ := h
  refine (Start_spec c w g d h3 hs).mono ?_
  intro r w' hL
  rw [hon] at hL
  obtain ⟨x, y, c', rfl, e1, e2, e3, e4, e5, e6, e7, e8⟩ := hL
  have hL : Left c w g d.started w' := ⟨c', e1, e3, e4⟩
  exact ⟨x, y, rfl, e6, hL.toB h1 h2⟩
theorem Used_B (h : DiskB B w g d) (hs : d.small) : CallP Try.prog 41 #[.pointer (some ⟨g, 0, none⟩)] (fun r w' => r = .int .i64 d.used ∧ DiskB B w' g d ∧ Below w.heap.size w w') w := by
  have h0 := h
  obtain ⟨h1, c, h2, h3⟩ := h
  refine (Used_spec c w g d h3 hs).mono ?_
  rintro r w' ⟨rfl, hb⟩
  exact ⟨rfl, h0.below hb, hb⟩
theorem Waiting_B (h : DiskB B w g d) : CallP Try.prog 39 #[.pointer (some ⟨g, 0, none⟩)] (fun r w' => r = .int .i64 d.waits.length ∧ w = w') w := by
  obtain ⟨h1, c, h2, h3⟩ := h
  exact Waiting_spec c w g d h3
theorem Checkpoint_B (v : Value) (bs : List UInt8) (h : DiskB B w g d) (hs : d.small) (hv : RdB w v bs) (hl : bs.length ≤ 100000000) :
    CallP Try.prog 42 #[.pointer (some ⟨g, 0, none⟩), v] (fun r w' => r = .int .i64 (checkAns d bs) ∧ DiskB B w' g (if checkAns d bs = 0 then { d with state := bs, log := [] } else d) ∧ Below B w w') w := by
  obtain ⟨h1, c, h2, h3⟩ := h
  refine (Checkpoint_spec c w g d v bs h3 hs hv hl).mono ?_
  rintro r w' ⟨rfl, hL⟩
  exact ⟨rfl, hL.toB h1 h2⟩
theorem Resize_B (room : Int) (h : DiskB B w g d) (hs : d.small) :
    CallP Try.prog 44 #[.pointer (some ⟨g, 0, none⟩), .int .i64 room] (fun r w' => r = .int .i64 (resizeAns d room) ∧ DiskB B w' g (if resizeAns d room = 0 then { d with room := room.toNat } else d) ∧ Below B w w') w := by
  obtain ⟨h1, c, h2, h3⟩ := h
  refine (Resize_spec c w g d room h3 hs).mono ?_
  rintro r w' ⟨rfl, hL⟩
  exact ⟨rfl, hL.toB h1 h2⟩
theorem Flip_B (m : Int) (b : UInt8) (h : DiskB B w g d) (hs : d.small) (h0 : d.waits = []) :
    CallP Try.prog 40 #[.pointer (some ⟨g, 0, none⟩), .int .i64 m, .int .u8 (b.toNat : Int)] (fun r w' => r = .bool (decide (0 ≤ m ∧ m < d.log.length)) ∧ DiskB B w' g (if 0 ≤ m ∧ m < d.log.length then d.flipped m.toNat b else d) ∧ Below B w w') w := by
  obtain ⟨h1, c, h2, h3⟩ := h
  refine (Flip_spec c w g d m b h3 hs h0).mono ?_
  rintro r w' ⟨rfl, hL⟩
  exact ⟨rfl, hL.toB h1 h2⟩
theorem Log_B (h : DiskB B w g d) (hs : d.small) :
    CallP Try.prog 43 #[.pointer (some ⟨g, 0, none⟩)] (fun r w' => RdB w' r (d.log ++ d.waits.flatten) ∧ Below w.heap.size w w') w := by
  obtain ⟨h1, c, h2, h3⟩ := h
  refine (Log_spec c w g d h3 hs).mono ?_
  rintro r w' ⟨ho, _, hb⟩
  exact ⟨ho.rdB, hb⟩
theorem New_B (room : Nat) (w : World) (hr : room ≤ 4194304) :
    CallP Try.prog 34 #[.int .i64 room] (fun r w' => ∃ g, r = .tuple #[.pointer (some ⟨g, 0, none⟩), .int .i64 0] ∧ DiskB w.heap.size w' g ⟨room, false, [], [], []⟩ ∧ Below w.heap.size w w') w := by
  refine (New_spec w room (by omega)).mono ?_
  rintro r w' ⟨hL, hb⟩
  rw [if_neg (by omega), Int.toNat_natCast] at hL
  obtain ⟨g, c, rfl, h1, h2⟩ := hL
  exact ⟨g, rfl, ⟨hb.size, c, h1, h2⟩, hb⟩
end
instance (d : Dk) : Decidable d.small := inferInstanceAs (Decidable (_ ∧ _ ∧ _))
instance : DecidableEq Dk := fun a b => decidable_of_iff (a.room = b.room ∧ a.on = b.on ∧ a.state = b.state ∧ a.log = b.log ∧ a.waits = b.waits) (by cases a; cases b; simp)
theorem und54 : Try.prog.underlying 54 = some (.pointer 76) := by kernel_rfl
theorem scan_nil0 : Frame.scan [] = ([], 0) := Frame.scan_end [] (Frame.view_short [] (by simp))
theorem started_nil (room : Nat) : Dk.started ⟨room, false, [], [], []⟩ = ⟨room, true, [], [], []⟩ := by simp [Dk.started, scan_nil0]
theorem awake33_spec (w : World) : CallP Try.prog 33 #[] (fun r w' => r = .bool true ∧ Below w.heap.size w w') w := by
  refine ⟨S33.calls _ _ ?_⟩
  unfold S33
  refine (New_B 100 w (by omega)).mono ?_
  rintro _ w1 ⟨g, rfl, h1, hb1⟩
  (repeat (first | (with_reducible refine nck ?_) | (with_reducible refine cdT ?_) | (with_reducible refine cdF ?_) | (with_reducible refine gdY ?_) | (with_reducible refine gdFT ?_) | (with_reducible refine gdTF ?_) | (with_reducible refine gdU ?_) | (with_reducible refine gaY ?_) | (with_reducible refine gaFT ?_) | (with_reducible refine gaTF ?_) | (with_reducible refine pickT ?_) | (with_reducible refine pickF ?_) | (with_reducible refine bi_lss_t (by omega) ?_) | (with_reducible refine bi_lss_f (by omega) ?_) | (with_reducible refine bi_add64 (by omega) ?_) | (with_reducible refine bi_sub64 (by omega) ?_) | (with_reducible refine bi_eql_t (by omega) ?_) | (with_reducible refine bi_eql_f (by omega) ?_) | (with_reducible refine bi_neq_t (by omega) ?_) | (with_reducible refine bi_neq_f (by omega) ?_) | (with_reducible refine bi_gtr_t (by omega) ?_) | (with_reducible refine bi_gtr_f (by omega) ?_) | (with_reducible refine bi_leq_t (by omega) ?_) | (with_reducible refine bi_leq_f (by omega) ?_) | (with_reducible refine bi_geq_t (by omega) ?_) | (with_reducible refine bi_geq_f (by omega) ?_) | (with_reducible refine bi_xt0 ?_) | (with_reducible refine bi_xt1 ?_) | (with_reducible refine bi_xt2 ?_) | (with_reducible refine bi_xt3 ?_) | (with_reducible refine bi_T ?_) | (with_reducible refine bi_F ?_) | (with_reducible refine bi_not ?_) | (with_reducible refine bi_and ?_) | (with_reducible refine bi_or ?_) | (with_reducible refine bi_xor ?_) | (with_reducible refine bi_shr (by omega) (by decide) ?_) | (with_reducible refine bi_shl (by omega) (by decide) ?_) | (with_reducible refine bi_quo64 (by omega) ?_) | (with_reducible refine bi_rem64 (by omega) ?_) | (with_reducible refine bi_mul64 (by omega) ?_) | (with_reducible refine bi_neg ?_) | (with_reducible refine bi_un_xor32 ?_) | (with_reducible refine bi_add ?_) | (with_reducible refine bi_sub ?_) | (with_reducible refine bi_mul ?_) | (with_reducible refine bi_quo (by decide) ?_) | (with_reducible refine bi_rem (by decide) ?_)))
  refine ofPR (pr_pnil und54) ?_
  rw [show Option.isNone (some (⟨g, 0, none⟩ : Addr)) = false from rfl]
  (repeat (first | (with_reducible refine nck ?_) | (with_reducible refine cdT ?_) | (with_reducible refine cdF ?_) | (with_reducible refine gdY ?_) | (with_reducible refine gdFT ?_) | (with_reducible refine gdTF ?_) | (with_reducible refine gdU ?_) | (with_reducible refine gaY ?_) | (with_reducible refine gaFT ?_) | (with_reducible refine gaTF ?_) | (with_reducible refine pickT ?_) | (with_reducible refine pickF ?_) | (with_reducible refine bi_lss_t (by omega) ?_) | (with_reducible refine bi_lss_f (by omega) ?_) | (with_reducible refine bi_add64 (by omega) ?_) | (with_reducible refine bi_sub64 (by omega) ?_) | (with_reducible refine bi_eql_t (by omega) ?_) | (with_reducible refine bi_eql_f (by omega) ?_) | (with_reducible refine bi_neq_t (by omega) ?_) | (with_reducible refine bi_neq_f (by omega) ?_) | (with_reducible refine bi_gtr_t (by omega) ?_) | (with_reducible refine bi_gtr_f (by omega) ?_) | (with_reducible refine bi_leq_t (by omega) ?_) | (with_reducible refine bi_leq_f (by omega) ?_) | (with_reducible refine bi_geq_t (by omega) ?_) | (with_reducible refine bi_geq_f (by omega) ?_) | (with_reducible refine bi_xt0 ?_) | (with_reducible refine bi_xt1 ?_) | (with_reducible refine bi_xt2 ?_) | (with_reducible refine bi_xt3 ?_) | (with_reducible refine bi_T ?_) | (with_reducible refine bi_F ?_) | (with_reducible refine bi_not ?_) | (with_reducible refine bi_and ?_) | (with_reducible refine bi_or ?_) | (with_reducible refine bi_xor ?_) | (with_reducible refine bi_shr (by omega) (by decide) ?_) | (with_reducible refine bi_shl (by omega) (by decide) ?_) | (with_reducible refine bi_quo64 (by omega) ?_) | (with_reducible refine bi_rem64 (by omega) ?_) | (with_reducible refine bi_mul64 (by omega) ?_) | (with_reducible refine bi_neg ?_) | (with_reducible refine bi_un_xor32 ?_) | (with_reducible refine bi_add ?_) | (with_reducible refine bi_sub ?_) | (with_reducible refine bi_mul ?_) | (with_reducible refine bi_quo (by decide) ?_) | (with_reducible refine bi_rem (by decide) ?_)))
  refine (Append_B _ [] h1 ⟨by simp [Dk.used, costL], by simp, by simp⟩ (Own.nil 5 w1).rd).mono ?_
  rintro _ w2 ⟨rfl, h2, hb2⟩
  have e2 : appendAns ⟨100, false, [], [], []⟩ [] = 15 := rfl
  rw [e2, if_neg (by omega)] at h2
  rw [e2]
  replace hb2 := hb1.trans hb2
  (repeat (first | (with_reducible refine nck ?_) | (with_reducible refine cdT ?_) | (with_reducible refine cdF ?_) | (with_reducible refine gdY ?_) | (with_reducible refine gdFT ?_) | (with_reducible refine gdTF ?_) | (with_reducible refine gdU ?_) | (with_reducible refine gaY ?_) | (with_reducible refine gaFT ?_) | (with_reducible refine gaTF ?_) | (with_reducible refine pickT ?_) | (with_reducible refine pickF ?_) | (with_reducible refine bi_lss_t (by omega) ?_) | (with_reducible refine bi_lss_f (by omega) ?_) | (with_reducible refine bi_add64 (by omega) ?_) | (with_reducible refine bi_sub64 (by omega) ?_) | (with_reducible refine bi_eql_t (by omega) ?_) | (with_reducible refine bi_eql_f (by omega) ?_) | (with_reducible refine bi_neq_t (by omega) ?_) | (with_reducible refine bi_neq_f (by omega) ?_) | (with_reducible refine bi_gtr_t (by omega) ?_) | (with_reducible refine bi_gtr_f (by omega) ?_) | (with_reducible refine bi_leq_t (by omega) ?_) | (with_reducible refine bi_leq_f (by omega) ?_) | (with_reducible refine bi_geq_t (by omega) ?_) | (with_reducible refine bi_geq_f (by omega) ?_) | (with_reducible refine bi_xt0 ?_) | (with_reducible refine bi_xt1 ?_) | (with_reducible refine bi_xt2 ?_) | (with_reducible refine bi_xt3 ?_) | (with_reducible refine bi_T ?_) | (with_reducible refine bi_F ?_) | (with_reducible refine bi_not ?_) | (with_reducible refine bi_and ?_) | (with_reducible refine bi_or ?_) | (with_reducible refine bi_xor ?_) | (with_reducible refine bi_shr (by omega) (by decide) ?_) | (with_reducible refine bi_shl (by omega) (by decide) ?_) | (with_reducible refine bi_quo64 (by omega) ?_) | (with_reducible refine bi_rem64 (by omega) ?_) | (with_reducible refine bi_mul64 (by omega) ?_) | (with_reducible refine bi_neg ?_) | (with_reducible refine bi_un_xor32 ?_) | (with_reducible refine bi_add ?_) | (with_reducible refine bi_sub ?_) | (with_reducible refine bi_mul ?_) | (with_reducible refine bi_quo (by decide) ?_) | (with_reducible refine bi_rem (by decide) ?_)))
  refine (Start_B h2 ⟨by simp [Dk.used, costL], by simp, by simp⟩ rfl).mono ?_
  rintro _ w3 ⟨_, _, rfl, _, h3, hb3⟩
  rw [started_nil] at h3
  replace hb3 := hb2.trans hb3
  refine lift (v := .slice (some ⟨w3.heap.size, 0, none⟩) 1 1) (w' := w3.alloc (.cells (([97] : List UInt8).map u8).toArray 5)) (by kernel_rfl) ?_
  refine cvC und23 und5 ?_
  have ha3 := (Below.refl w3.heap.size w3).alloc (Nat.le_refl _) (.cells (([97] : List UInt8).map u8).toArray 5 (1, 2))
  have hr3 := rdB_const w3 5 ([97] : List UInt8) (1, 2) (by decide)
  refine (Append_B _ ([97] : List UInt8) ((h3).below ha3) (by decide +kernel) hr3).mono ?_
  rintro _ w4 ⟨rfl, h4, hb4⟩
  have e4 : appendAns ⟨100, true, [], [], []⟩ ([97] : List UInt8) = 0 := by decide +kernel
  rw [e4, if_pos rfl] at h4
  replace h4 : DiskB w.heap.size w4 g ⟨100, true, [], [], [Frame.wrap [97]]⟩ := h4
  replace hb4 := (below_then hb3 ha3).trans hb4
  (repeat (first | (with_reducible refine nck ?_) | (with_reducible refine cdT ?_) | (with_reducible refine cdF ?_) | (with_reducible refine gdY ?_) | (with_reducible refine gdFT ?_) | (with_reducible refine gdTF ?_) | (with_reducible refine gdU ?_) | (with_reducible refine gaY ?_) | (with_reducible refine gaFT ?_) | (with_reducible refine gaTF ?_) | (with_reducible refine pickT ?_) | (with_reducible refine pickF ?_) | (with_reducible refine bi_lss_t (by omega) ?_) | (with_reducible refine bi_lss_f (by omega) ?_) | (with_reducible refine bi_add64 (by omega) ?_) | (with_reducible refine bi_sub64 (by omega) ?_) | (with_reducible refine bi_eql_t (by omega) ?_) | (with_reducible refine bi_eql_f (by omega) ?_) | (with_reducible refine bi_neq_t (by omega) ?_) | (with_reducible refine bi_neq_f (by omega) ?_) | (with_reducible refine bi_gtr_t (by omega) ?_) | (with_reducible refine bi_gtr_f (by omega) ?_) | (with_reducible refine bi_leq_t (by omega) ?_) | (with_reducible refine bi_leq_f (by omega) ?_) | (with_reducible refine bi_geq_t (by omega) ?_) | (with_reducible refine bi_geq_f (by omega) ?_) | (with_reducible refine bi_xt0 ?_) | (with_reducible refine bi_xt1 ?_) | (with_reducible refine bi_xt2 ?_) | (with_reducible refine bi_xt3 ?_) | (with_reducible refine bi_T ?_) | (with_reducible refine bi_F ?_) | (with_reducible refine bi_not ?_) | (with_reducible refine bi_and ?_) | (with_reducible refine bi_or ?_) | (with_reducible refine bi_xor ?_) | (with_reducible refine bi_shr (by omega) (by decide) ?_) | (with_reducible refine bi_shl (by omega) (by decide) ?_) | (with_reducible refine bi_quo64 (by omega) ?_) | (with_reducible refine bi_rem64 (by omega) ?_) | (with_reducible refine bi_mul64 (by omega) ?_) | (with_reducible refine bi_neg ?_) | (with_reducible refine bi_un_xor32 ?_) | (with_reducible refine bi_add ?_) | (with_reducible refine bi_sub ?_) | (with_reducible refine bi_mul ?_) | (with_reducible refine bi_quo (by decide) ?_) | (with_reducible refine bi_rem (by decide) ?_)))
  refine lift (v := .slice (some ⟨w4.heap.size, 0, none⟩) 2 2) (w' := w4.alloc (.cells (([98, 99] : List UInt8).map u8).toArray 5)) (by kernel_rfl) ?_
  refine cvC und23 und5 ?_
  have ha4 := (Below.refl w4.heap.size w4).alloc (Nat.le_refl _) (.cells (([98, 99] : List UInt8).map u8).toArray 5 (2, 3))
  have hr4 := rdB_const w4 5 ([98, 99] : List UInt8) (2, 3) (by decide)
  refine (Append_B _ ([98, 99] : List UInt8) ((h4).below ha4) (by decide +kernel) hr4).mono ?_
  rintro _ w5 ⟨rfl, h5, hb5⟩
  have e5 : appendAns ⟨100, true, [], [], [Frame.wrap [97]]⟩ ([98, 99] : List UInt8) = 0 := by decide +kernel
  rw [e5, if_pos rfl] at h5
  replace h5 : DiskB w.heap.size w5 g ⟨100, true, [], [], [Frame.wrap [97], Frame.wrap [98, 99]]⟩ := h5
  replace hb5 := (below_then hb4 ha4).trans hb5
  (repeat (first | (with_reducible refine nck ?_) | (with_reducible refine cdT ?_) | (with_reducible refine cdF ?_) | (with_reducible refine gdY ?_) | (with_reducible refine gdFT ?_) | (with_reducible refine gdTF ?_) | (with_reducible refine gdU ?_) | (with_reducible refine gaY ?_) | (with_reducible refine gaFT ?_) | (with_reducible refine gaTF ?_) | (with_reducible refine pickT ?_) | (with_reducible refine pickF ?_) | (with_reducible refine bi_lss_t (by omega) ?_) | (with_reducible refine bi_lss_f (by omega) ?_) | (with_reducible refine bi_add64 (by omega) ?_) | (with_reducible refine bi_sub64 (by omega) ?_) | (with_reducible refine bi_eql_t (by omega) ?_) | (with_reducible refine bi_eql_f (by omega) ?_) | (with_reducible refine bi_neq_t (by omega) ?_) | (with_reducible refine bi_neq_f (by omega) ?_) | (with_reducible refine bi_gtr_t (by omega) ?_) | (with_reducible refine bi_gtr_f (by omega) ?_) | (with_reducible refine bi_leq_t (by omega) ?_) | (with_reducible refine bi_leq_f (by omega) ?_) | (with_reducible refine bi_geq_t (by omega) ?_) | (with_reducible refine bi_geq_f (by omega) ?_) | (with_reducible refine bi_xt0 ?_) | (with_reducible refine bi_xt1 ?_) | (with_reducible refine bi_xt2 ?_) | (with_reducible refine bi_xt3 ?_) | (with_reducible refine bi_T ?_) | (with_reducible refine bi_F ?_) | (with_reducible refine bi_not ?_) | (with_reducible refine bi_and ?_) | (with_reducible refine bi_or ?_) | (with_reducible refine bi_xor ?_) | (with_reducible refine bi_shr (by omega) (by decide) ?_) | (with_reducible refine bi_shl (by omega) (by decide) ?_) | (with_reducible refine bi_quo64 (by omega) ?_) | (with_reducible refine bi_rem64 (by omega) ?_) | (with_reducible refine bi_mul64 (by omega) ?_) | (with_reducible refine bi_neg ?_) | (with_reducible refine bi_un_xor32 ?_) | (with_reducible refine bi_add ?_) | (with_reducible refine bi_sub ?_) | (with_reducible refine bi_mul ?_) | (with_reducible refine bi_quo (by decide) ?_) | (with_reducible refine bi_rem (by decide) ?_)))
  refine (Sync_B h5 (by decide +kernel) rfl).mono ?_
  rintro _ w6 ⟨rfl, h6, hb6⟩
  have e6 : Dk.synced ⟨100, true, [], [], [Frame.wrap [97], Frame.wrap [98, 99]]⟩ = ⟨100, true, [], (Frame.cat [[97], [98, 99]]), []⟩ := rfl
  rw [e6] at h6
  replace hb6 := hb5.trans hb6
  (repeat (first | (with_reducible refine nck ?_) | (with_reducible refine cdT ?_) | (with_reducible refine cdF ?_) | (with_reducible refine gdY ?_) | (with_reducible refine gdFT ?_) | (with_reducible refine gdTF ?_) | (with_reducible refine gdU ?_) | (with_reducible refine gaY ?_) | (with_reducible refine gaFT ?_) | (with_reducible refine gaTF ?_) | (with_reducible refine pickT ?_) | (with_reducible refine pickF ?_) | (with_reducible refine bi_lss_t (by omega) ?_) | (with_reducible refine bi_lss_f (by omega) ?_) | (with_reducible refine bi_add64 (by omega) ?_) | (with_reducible refine bi_sub64 (by omega) ?_) | (with_reducible refine bi_eql_t (by omega) ?_) | (with_reducible refine bi_eql_f (by omega) ?_) | (with_reducible refine bi_neq_t (by omega) ?_) | (with_reducible refine bi_neq_f (by omega) ?_) | (with_reducible refine bi_gtr_t (by omega) ?_) | (with_reducible refine bi_gtr_f (by omega) ?_) | (with_reducible refine bi_leq_t (by omega) ?_) | (with_reducible refine bi_leq_f (by omega) ?_) | (with_reducible refine bi_geq_t (by omega) ?_) | (with_reducible refine bi_geq_f (by omega) ?_) | (with_reducible refine bi_xt0 ?_) | (with_reducible refine bi_xt1 ?_) | (with_reducible refine bi_xt2 ?_) | (with_reducible refine bi_xt3 ?_) | (with_reducible refine bi_T ?_) | (with_reducible refine bi_F ?_) | (with_reducible refine bi_not ?_) | (with_reducible refine bi_and ?_) | (with_reducible refine bi_or ?_) | (with_reducible refine bi_xor ?_) | (with_reducible refine bi_shr (by omega) (by decide) ?_) | (with_reducible refine bi_shl (by omega) (by decide) ?_) | (with_reducible refine bi_quo64 (by omega) ?_) | (with_reducible refine bi_rem64 (by omega) ?_) | (with_reducible refine bi_mul64 (by omega) ?_) | (with_reducible refine bi_neg ?_) | (with_reducible refine bi_un_xor32 ?_) | (with_reducible refine bi_add ?_) | (with_reducible refine bi_sub ?_) | (with_reducible refine bi_mul ?_) | (with_reducible refine bi_quo (by decide) ?_) | (with_reducible refine bi_rem (by decide) ?_)))
  refine lift (v := .slice (some ⟨w6.heap.size, 0, none⟩) 1 1) (w' := w6.alloc (.cells (([100] : List UInt8).map u8).toArray 5)) (by kernel_rfl) ?_
  refine cvC und23 und5 ?_
  have ha6 := (Below.refl w6.heap.size w6).alloc (Nat.le_refl _) (.cells (([100] : List UInt8).map u8).toArray 5 (1, 2))
  have hr6 := rdB_const w6 5 ([100] : List UInt8) (1, 2) (by decide)
  refine (Append_B _ ([100] : List UInt8) ((h6).below ha6) (by decide +kernel) hr6).mono ?_
  rintro _ w7 ⟨rfl, h7, hb7⟩
  have e7 : appendAns ⟨100, true, [], (Frame.cat [[97], [98, 99]]), []⟩ ([100] : List UInt8) = 0 := by decide +kernel
  rw [e7, if_pos rfl] at h7
  replace h7 : DiskB w.heap.size w7 g ⟨100, true, [], (Frame.cat [[97], [98, 99]]), [Frame.wrap [100]]⟩ := h7
  replace hb7 := (below_then hb6 ha6).trans hb7
  (repeat (first | (with_reducible refine nck ?_) | (with_reducible refine cdT ?_) | (with_reducible refine cdF ?_) | (with_reducible refine gdY ?_) | (with_reducible refine gdFT ?_) | (with_reducible refine gdTF ?_) | (with_reducible refine gdU ?_) | (with_reducible refine gaY ?_) | (with_reducible refine gaFT ?_) | (with_reducible refine gaTF ?_) | (with_reducible refine pickT ?_) | (with_reducible refine pickF ?_) | (with_reducible refine bi_lss_t (by omega) ?_) | (with_reducible refine bi_lss_f (by omega) ?_) | (with_reducible refine bi_add64 (by omega) ?_) | (with_reducible refine bi_sub64 (by omega) ?_) | (with_reducible refine bi_eql_t (by omega) ?_) | (with_reducible refine bi_eql_f (by omega) ?_) | (with_reducible refine bi_neq_t (by omega) ?_) | (with_reducible refine bi_neq_f (by omega) ?_) | (with_reducible refine bi_gtr_t (by omega) ?_) | (with_reducible refine bi_gtr_f (by omega) ?_) | (with_reducible refine bi_leq_t (by omega) ?_) | (with_reducible refine bi_leq_f (by omega) ?_) | (with_reducible refine bi_geq_t (by omega) ?_) | (with_reducible refine bi_geq_f (by omega) ?_) | (with_reducible refine bi_xt0 ?_) | (with_reducible refine bi_xt1 ?_) | (with_reducible refine bi_xt2 ?_) | (with_reducible refine bi_xt3 ?_) | (with_reducible refine bi_T ?_) | (with_reducible refine bi_F ?_) | (with_reducible refine bi_not ?_) | (with_reducible refine bi_and ?_) | (with_reducible refine bi_or ?_) | (with_reducible refine bi_xor ?_) | (with_reducible refine bi_shr (by omega) (by decide) ?_) | (with_reducible refine bi_shl (by omega) (by decide) ?_) | (with_reducible refine bi_quo64 (by omega) ?_) | (with_reducible refine bi_rem64 (by omega) ?_) | (with_reducible refine bi_mul64 (by omega) ?_) | (with_reducible refine bi_neg ?_) | (with_reducible refine bi_un_xor32 ?_) | (with_reducible refine bi_add ?_) | (with_reducible refine bi_sub ?_) | (with_reducible refine bi_mul ?_) | (with_reducible refine bi_quo (by decide) ?_) | (with_reducible refine bi_rem (by decide) ?_)))
  refine lift (v := .slice (some ⟨w7.heap.size, 0, none⟩) 1 1) (w' := w7.alloc (.cells (([101] : List UInt8).map u8).toArray 5)) (by kernel_rfl) ?_
  refine cvC und23 und5 ?_
  have ha7 := (Below.refl w7.heap.size w7).alloc (Nat.le_refl _) (.cells (([101] : List UInt8).map u8).toArray 5 (1, 2))
  have hr7 := rdB_const w7 5 ([101] : List UInt8) (1, 2) (by decide)
  refine (Append_B _ ([101] : List UInt8) ((h7).below ha7) (by decide +kernel) hr7).mono ?_
  rintro _ w8 ⟨rfl, h8, hb8⟩
  have e8 : appendAns ⟨100, true, [], (Frame.cat [[97], [98, 99]]), [Frame.wrap [100]]⟩ ([101] : List UInt8) = 0 := by decide +kernel
  rw [e8, if_pos rfl] at h8
  replace h8 : DiskB w.heap.size w8 g ⟨100, true, [], (Frame.cat [[97], [98, 99]]), [Frame.wrap [100], Frame.wrap [101]]⟩ := h8
  replace hb8 := (below_then hb7 ha7).trans hb8
  (repeat (first | (with_reducible refine nck ?_) | (with_reducible refine cdT ?_) | (with_reducible refine cdF ?_) | (with_reducible refine gdY ?_) | (with_reducible refine gdFT ?_) | (with_reducible refine gdTF ?_) | (with_reducible refine gdU ?_) | (with_reducible refine gaY ?_) | (with_reducible refine gaFT ?_) | (with_reducible refine gaTF ?_) | (with_reducible refine pickT ?_) | (with_reducible refine pickF ?_) | (with_reducible refine bi_lss_t (by omega) ?_) | (with_reducible refine bi_lss_f (by omega) ?_) | (with_reducible refine bi_add64 (by omega) ?_) | (with_reducible refine bi_sub64 (by omega) ?_) | (with_reducible refine bi_eql_t (by omega) ?_) | (with_reducible refine bi_eql_f (by omega) ?_) | (with_reducible refine bi_neq_t (by omega) ?_) | (with_reducible refine bi_neq_f (by omega) ?_) | (with_reducible refine bi_gtr_t (by omega) ?_) | (with_reducible refine bi_gtr_f (by omega) ?_) | (with_reducible refine bi_leq_t (by omega) ?_) | (with_reducible refine bi_leq_f (by omega) ?_) | (with_reducible refine bi_geq_t (by omega) ?_) | (with_reducible refine bi_geq_f (by omega) ?_) | (with_reducible refine bi_xt0 ?_) | (with_reducible refine bi_xt1 ?_) | (with_reducible refine bi_xt2 ?_) | (with_reducible refine bi_xt3 ?_) | (with_reducible refine bi_T ?_) | (with_reducible refine bi_F ?_) | (with_reducible refine bi_not ?_) | (with_reducible refine bi_and ?_) | (with_reducible refine bi_or ?_) | (with_reducible refine bi_xor ?_) | (with_reducible refine bi_shr (by omega) (by decide) ?_) | (with_reducible refine bi_shl (by omega) (by decide) ?_) | (with_reducible refine bi_quo64 (by omega) ?_) | (with_reducible refine bi_rem64 (by omega) ?_) | (with_reducible refine bi_mul64 (by omega) ?_) | (with_reducible refine bi_neg ?_) | (with_reducible refine bi_un_xor32 ?_) | (with_reducible refine bi_add ?_) | (with_reducible refine bi_sub ?_) | (with_reducible refine bi_mul ?_) | (with_reducible refine bi_quo (by decide) ?_) | (with_reducible refine bi_rem (by decide) ?_)))
  refine (Crash_B 1 4 h8 (by decide +kernel) (by decide +kernel) rfl).mono ?_
  rintro _ w9 ⟨rfl, h9, hb9⟩
  have e9 : Dk.crash ⟨100, true, [], (Frame.cat [[97], [98, 99]]), [Frame.wrap [100], Frame.wrap [101]]⟩ 1 4 = ⟨100, false, [], Frame.cat [[97], [98, 99], [100]] ++ (Frame.wrap [101]).take 4, []⟩ := by decide +kernel
  rw [e9] at h9
  replace hb9 := hb8.trans hb9
  (repeat (first | (with_reducible refine nck ?_) | (with_reducible refine cdT ?_) | (with_reducible refine cdF ?_) | (with_reducible refine gdY ?_) | (with_reducible refine gdFT ?_) | (with_reducible refine gdTF ?_) | (with_reducible refine gdU ?_) | (with_reducible refine gaY ?_) | (with_reducible refine gaFT ?_) | (with_reducible refine gaTF ?_) | (with_reducible refine pickT ?_) | (with_reducible refine pickF ?_) | (with_reducible refine bi_lss_t (by omega) ?_) | (with_reducible refine bi_lss_f (by omega) ?_) | (with_reducible refine bi_add64 (by omega) ?_) | (with_reducible refine bi_sub64 (by omega) ?_) | (with_reducible refine bi_eql_t (by omega) ?_) | (with_reducible refine bi_eql_f (by omega) ?_) | (with_reducible refine bi_neq_t (by omega) ?_) | (with_reducible refine bi_neq_f (by omega) ?_) | (with_reducible refine bi_gtr_t (by omega) ?_) | (with_reducible refine bi_gtr_f (by omega) ?_) | (with_reducible refine bi_leq_t (by omega) ?_) | (with_reducible refine bi_leq_f (by omega) ?_) | (with_reducible refine bi_geq_t (by omega) ?_) | (with_reducible refine bi_geq_f (by omega) ?_) | (with_reducible refine bi_xt0 ?_) | (with_reducible refine bi_xt1 ?_) | (with_reducible refine bi_xt2 ?_) | (with_reducible refine bi_xt3 ?_) | (with_reducible refine bi_T ?_) | (with_reducible refine bi_F ?_) | (with_reducible refine bi_not ?_) | (with_reducible refine bi_and ?_) | (with_reducible refine bi_or ?_) | (with_reducible refine bi_xor ?_) | (with_reducible refine bi_shr (by omega) (by decide) ?_) | (with_reducible refine bi_shl (by omega) (by decide) ?_) | (with_reducible refine bi_quo64 (by omega) ?_) | (with_reducible refine bi_rem64 (by omega) ?_) | (with_reducible refine bi_mul64 (by omega) ?_) | (with_reducible refine bi_neg ?_) | (with_reducible refine bi_un_xor32 ?_) | (with_reducible refine bi_add ?_) | (with_reducible refine bi_sub ?_) | (with_reducible refine bi_mul ?_) | (with_reducible refine bi_quo (by decide) ?_) | (with_reducible refine bi_rem (by decide) ?_)))
  have hsc : Frame.scan (Frame.cat [[97], [98, 99], [100]] ++ (Frame.wrap [101]).take 4) = ([[97], [98, 99], [100]], (Frame.cat [[97], [98, 99], [100]]).length) := Frame.scan_cat _ _ (by decide) (Frame.view_short _ (by decide +kernel))
  refine (Start_B h9 (by decide +kernel) rfl).mono ?_
  rintro _ w10 ⟨_, y, rfl, hy, h10, hb10⟩
  have e10 : Dk.started ⟨100, false, [], Frame.cat [[97], [98, 99], [100]] ++ (Frame.wrap [101]).take 4, []⟩ = ⟨100, true, [], Frame.cat [[97], [98, 99], [100]], []⟩ := by
    unfold Dk.started
    simp only
    rw [hsc]
    simp only [List.take_left]
  rw [e10] at h10
  rw [hsc] at hy
  replace hb10 := hb9.trans hb10
  have hss := hy.rd
  obtain ⟨A, c, rfl, _, _⟩ := hss.slice
  obtain ⟨a, A', n', c', rfl, hca, hra⟩ := hss.at 2 (by simp)
  have hca' : w10.cell? (a.add ((2 : Int).toNat * 1)) = some (.slice A' n' c') := hca
  (repeat (first | (with_reducible refine bi_eql_t rfl ?_) | (with_reducible refine nck ?_) | (with_reducible refine cdT ?_) | (with_reducible refine cdF ?_) | (with_reducible refine gdY ?_) | (with_reducible refine gdFT ?_) | (with_reducible refine gdTF ?_) | (with_reducible refine gdU ?_) | (with_reducible refine gaY ?_) | (with_reducible refine gaFT ?_) | (with_reducible refine gaTF ?_) | (with_reducible refine pickT ?_) | (with_reducible refine pickF ?_) | (with_reducible refine bi_lss_t (by omega) ?_) | (with_reducible refine bi_lss_f (by omega) ?_) | (with_reducible refine bi_add64 (by omega) ?_) | (with_reducible refine bi_sub64 (by omega) ?_) | (with_reducible refine bi_eql_t (by omega) ?_) | (with_reducible refine bi_eql_f (by omega) ?_) | (with_reducible refine bi_neq_t (by omega) ?_) | (with_reducible refine bi_neq_f (by omega) ?_) | (with_reducible refine bi_gtr_t (by omega) ?_) | (with_reducible refine bi_gtr_f (by omega) ?_) | (with_reducible refine bi_leq_t (by omega) ?_) | (with_reducible refine bi_leq_f (by omega) ?_) | (with_reducible refine bi_geq_t (by omega) ?_) | (with_reducible refine bi_geq_f (by omega) ?_) | (with_reducible refine bi_xt0 ?_) | (with_reducible refine bi_xt1 ?_) | (with_reducible refine bi_xt2 ?_) | (with_reducible refine bi_xt3 ?_) | (with_reducible refine bi_T ?_) | (with_reducible refine bi_F ?_) | (with_reducible refine bi_not ?_) | (with_reducible refine bi_and ?_) | (with_reducible refine bi_or ?_) | (with_reducible refine bi_xor ?_) | (with_reducible refine bi_shr (by omega) (by decide) ?_) | (with_reducible refine bi_shl (by omega) (by decide) ?_) | (with_reducible refine bi_quo64 (by omega) ?_) | (with_reducible refine bi_rem64 (by omega) ?_) | (with_reducible refine bi_mul64 (by omega) ?_) | (with_reducible refine bi_neg ?_) | (with_reducible refine bi_un_xor32 ?_) | (with_reducible refine bi_add ?_) | (with_reducible refine bi_sub ?_) | (with_reducible refine bi_mul ?_) | (with_reducible refine bi_quo (by decide) ?_) | (with_reducible refine bi_rem (by decide) ?_)))
  refine ln und45 ?_
  (repeat (first | (with_reducible refine bi_eql_t rfl ?_) | (with_reducible refine nck ?_) | (with_reducible refine cdT ?_) | (with_reducible refine cdF ?_) | (with_reducible refine gdY ?_) | (with_reducible refine gdFT ?_) | (with_reducible refine gdTF ?_) | (with_reducible refine gdU ?_) | (with_reducible refine gaY ?_) | (with_reducible refine gaFT ?_) | (with_reducible refine gaTF ?_) | (with_reducible refine pickT ?_) | (with_reducible refine pickF ?_) | (with_reducible refine bi_lss_t (by omega) ?_) | (with_reducible refine bi_lss_f (by omega) ?_) | (with_reducible refine bi_add64 (by omega) ?_) | (with_reducible refine bi_sub64 (by omega) ?_) | (with_reducible refine bi_eql_t (by omega) ?_) | (with_reducible refine bi_eql_f (by omega) ?_) | (with_reducible refine bi_neq_t (by omega) ?_) | (with_reducible refine bi_neq_f (by omega) ?_) | (with_reducible refine bi_gtr_t (by omega) ?_) | (with_reducible refine bi_gtr_f (by omega) ?_) | (with_reducible refine bi_leq_t (by omega) ?_) | (with_reducible refine bi_leq_f (by omega) ?_) | (with_reducible refine bi_geq_t (by omega) ?_) | (with_reducible refine bi_geq_f (by omega) ?_) | (with_reducible refine bi_xt0 ?_) | (with_reducible refine bi_xt1 ?_) | (with_reducible refine bi_xt2 ?_) | (with_reducible refine bi_xt3 ?_) | (with_reducible refine bi_T ?_) | (with_reducible refine bi_F ?_) | (with_reducible refine bi_not ?_) | (with_reducible refine bi_and ?_) | (with_reducible refine bi_or ?_) | (with_reducible refine bi_xor ?_) | (with_reducible refine bi_shr (by omega) (by decide) ?_) | (with_reducible refine bi_shl (by omega) (by decide) ?_) | (with_reducible refine bi_quo64 (by omega) ?_) | (with_reducible refine bi_rem64 (by omega) ?_) | (with_reducible refine bi_mul64 (by omega) ?_) | (with_reducible refine bi_neg ?_) | (with_reducible refine bi_un_xor32 ?_) | (with_reducible refine bi_add ?_) | (with_reducible refine bi_sub ?_) | (with_reducible refine bi_mul ?_) | (with_reducible refine bi_quo (by decide) ?_) | (with_reducible refine bi_rem (by decide) ?_)))
  refine ix und45 sz23 (by decide) (by decide) ?_
  (repeat (first | (with_reducible refine ld one23 hca' ?_) | (with_reducible refine cvBS und23 und5 und9 hra ?_) | (with_reducible refine bi_seql_t rfl ?_) | (with_reducible refine nck ?_) | (with_reducible refine cdT ?_) | (with_reducible refine cdF ?_) | (with_reducible refine gdY ?_) | (with_reducible refine gdFT ?_) | (with_reducible refine gdTF ?_) | (with_reducible refine gdU ?_) | (with_reducible refine gaY ?_) | (with_reducible refine gaFT ?_) | (with_reducible refine gaTF ?_) | (with_reducible refine pickT ?_) | (with_reducible refine pickF ?_) | (with_reducible refine bi_lss_t (by omega) ?_) | (with_reducible refine bi_lss_f (by omega) ?_) | (with_reducible refine bi_add64 (by omega) ?_) | (with_reducible refine bi_sub64 (by omega) ?_) | (with_reducible refine bi_eql_t (by omega) ?_) | (with_reducible refine bi_eql_f (by omega) ?_) | (with_reducible refine bi_neq_t (by omega) ?_) | (with_reducible refine bi_neq_f (by omega) ?_) | (with_reducible refine bi_gtr_t (by omega) ?_) | (with_reducible refine bi_gtr_f (by omega) ?_) | (with_reducible refine bi_leq_t (by omega) ?_) | (with_reducible refine bi_leq_f (by omega) ?_) | (with_reducible refine bi_geq_t (by omega) ?_) | (with_reducible refine bi_geq_f (by omega) ?_) | (with_reducible refine bi_xt0 ?_) | (with_reducible refine bi_xt1 ?_) | (with_reducible refine bi_xt2 ?_) | (with_reducible refine bi_xt3 ?_) | (with_reducible refine bi_T ?_) | (with_reducible refine bi_F ?_) | (with_reducible refine bi_not ?_) | (with_reducible refine bi_and ?_) | (with_reducible refine bi_or ?_) | (with_reducible refine bi_xor ?_) | (with_reducible refine bi_shr (by omega) (by decide) ?_) | (with_reducible refine bi_shl (by omega) (by decide) ?_) | (with_reducible refine bi_quo64 (by omega) ?_) | (with_reducible refine bi_rem64 (by omega) ?_) | (with_reducible refine bi_mul64 (by omega) ?_) | (with_reducible refine bi_neg ?_) | (with_reducible refine bi_un_xor32 ?_) | (with_reducible refine bi_add ?_) | (with_reducible refine bi_sub ?_) | (with_reducible refine bi_mul ?_) | (with_reducible refine bi_quo (by decide) ?_) | (with_reducible refine bi_rem (by decide) ?_)))
  refine (Used_B h10 (by decide +kernel)).mono ?_
  rintro _ w11 ⟨rfl, h11, hb11⟩
  have e11 : Dk.used ⟨100, true, [], Frame.cat [[97], [98, 99], [100]], []⟩ = 28 := by decide +kernel
  rw [e11]
  (repeat (first | (with_reducible refine bi_eql_t rfl ?_) | (with_reducible refine nck ?_) | (with_reducible refine cdT ?_) | (with_reducible refine cdF ?_) | (with_reducible refine gdY ?_) | (with_reducible refine gdFT ?_) | (with_reducible refine gdTF ?_) | (with_reducible refine gdU ?_) | (with_reducible refine gaY ?_) | (with_reducible refine gaFT ?_) | (with_reducible refine gaTF ?_) | (with_reducible refine pickT ?_) | (with_reducible refine pickF ?_) | (with_reducible refine bi_lss_t (by omega) ?_) | (with_reducible refine bi_lss_f (by omega) ?_) | (with_reducible refine bi_add64 (by omega) ?_) | (with_reducible refine bi_sub64 (by omega) ?_) | (with_reducible refine bi_eql_t (by omega) ?_) | (with_reducible refine bi_eql_f (by omega) ?_) | (with_reducible refine bi_neq_t (by omega) ?_) | (with_reducible refine bi_neq_f (by omega) ?_) | (with_reducible refine bi_gtr_t (by omega) ?_) | (with_reducible refine bi_gtr_f (by omega) ?_) | (with_reducible refine bi_leq_t (by omega) ?_) | (with_reducible refine bi_leq_f (by omega) ?_) | (with_reducible refine bi_geq_t (by omega) ?_) | (with_reducible refine bi_geq_f (by omega) ?_) | (with_reducible refine bi_xt0 ?_) | (with_reducible refine bi_xt1 ?_) | (with_reducible refine bi_xt2 ?_) | (with_reducible refine bi_xt3 ?_) | (with_reducible refine bi_T ?_) | (with_reducible refine bi_F ?_) | (with_reducible refine bi_not ?_) | (with_reducible refine bi_and ?_) | (with_reducible refine bi_or ?_) | (with_reducible refine bi_xor ?_) | (with_reducible refine bi_shr (by omega) (by decide) ?_) | (with_reducible refine bi_shl (by omega) (by decide) ?_) | (with_reducible refine bi_quo64 (by omega) ?_) | (with_reducible refine bi_rem64 (by omega) ?_) | (with_reducible refine bi_mul64 (by omega) ?_) | (with_reducible refine bi_neg ?_) | (with_reducible refine bi_un_xor32 ?_) | (with_reducible refine bi_add ?_) | (with_reducible refine bi_sub ?_) | (with_reducible refine bi_mul ?_) | (with_reducible refine bi_quo (by decide) ?_) | (with_reducible refine bi_rem (by decide) ?_)))
  exact ⟨rfl, below_then hb10 hb11⟩
end Go.Proofs.Ytgaamfdhjpkicaa.E
