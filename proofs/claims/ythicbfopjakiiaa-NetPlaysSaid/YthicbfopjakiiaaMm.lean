import Derived.Test.YthicbfopjakiiaaM1
import Derived.Test.YthicbfopjakiiaaProg
import Derived.KernelRfl
import Derived.Test.YthicbfopjakiiaaMl
namespace Go.Proofs.Ythicbfopjakiiaa.E
open Go
set_option maxRecDepth 100000

/-- (*shelfmark/net.Net).Under -/
def S43 (a0 : Value) (R : Value → World → Prop) (w : World) : Prop :=
  NextP Try.prog (nilChk a0) (fun v4 w =>
  LiftP Try.prog (Instr.fieldAt 118 v4 0) (fun v5 w =>
  LiftP Try.prog (Instr.loadAt 116 v5) (fun v6 w =>
  CallP Try.prog 67 #[v6] (fun v7 w =>
  CallP Try.prog 66 #[v7] (fun v8 w =>
  R v8 w) w) w) w) w) w
theorem S43.calls (a0 : Value) (R : Value → World → Prop) (w : World) (h : S43 a0 R w) : Calls Try.prog 43 #[a0] w fun e w' => ∃ v, e = .returned v ∧ R v w' :=
  calls_of_tr (n := 9) (c := bodyOf Try.f43) (.two .leaf (.two .leaf .leaf)) Try.func43 (by kernel_rfl) Try.ntmps43 (by kernel_rfl) (by kernel_rfl) [a0] (by kernel_rfl) (of_eq_ (by kernel_rfl) h)

end Go.Proofs.Ythicbfopjakiiaa.E
namespace Go.Proofs.Ythicbfopjakiiaa.E
open Go Go.Proofs Go.RowKit Go.Maps Go.Sort Go.Shelf
set_option linter.unusedSimpArgs false
set_option linter.unusedVariables false

/-- The map's words of the library's: whatever the values are. -/
theorem MapI.owns {w : World} {b : Nat} {l : List (Int × Value)} (h : MapI w b l) : ∃ D0 : DataW Unit, w.ownsMap Try.prog 3 (fun _ => some (.nil, [])) b l.length D0 ∧ (intKeys D0).Perm (l.map (·.1)) ∧ Maps.size D0 = l.length := by
  have hl := h
  obtain ⟨es, c, h1, h2, hst, hsz, hwf⟩ := h
  have hel : es.size = l.length := by have := congrArg List.length h2; simpa using this
  have hrd : ∀ x ∈ es.toList, ∃ k : Int, x.key = .int .i64 k ∧ WideElems.rd Try.prog 3 (fun _ => some ((.nil : DataW Unit), [])) x = some (.int .i64 k, .nil) := by
    intro x hx
    have hm : (x.key, x.val) ∈ es.toList.map (fun e => (e.key, e.val)) := List.mem_map.2 ⟨x, hx, rfl⟩
    rw [h2] at hm
    obtain ⟨p, hp, hpe⟩ := List.mem_map.1 hm
    have hk : x.key = .int .i64 p.1 := (congrArg Prod.fst hpe).symm
    refine ⟨p.1, hk, ?_⟩
    simp [WideElems.rd, hk, keyOf_int_mk und3 (hwf p hp)]
  refine ⟨.map ((es.toList.map (WideElems.rg Try.prog 3 fun _ => some (.nil, []))).foldr DataW.insert []), ⟨es, c, h1, ⟨hsz, hst, fun x hx => by obtain ⟨k, _, hk⟩ := hrd x hx; exact ⟨_, hk⟩⟩, by omega, rfl⟩, ?_, ?_⟩
  · have hp := (WideShapes.sorted_perm (es.toList.map (WideElems.rg Try.prog 3 fun _ => some ((.nil : DataW Unit), [])))).map fun p => Go.intOf p.1
    refine hp.trans ?_
    have e1 : (es.toList.map (WideElems.rg Try.prog 3 fun _ => some ((.nil : DataW Unit), []))).map (fun p => Go.intOf p.1) = l.map (·.1) := by
      have : (es.toList.map fun x => x.key) = l.map fun p => Value.int .i64 p.1 := by
        have := congrArg (List.map Prod.fst) h2
        simpa [List.map_map, Function.comp_def] using this
      have e2 : (es.toList.map (WideElems.rg Try.prog 3 fun _ => some ((.nil : DataW Unit), []))).map (fun p => Go.intOf p.1) = (es.toList.map fun x => x.key).map (fun v => match v with | .int _ n => n | _ => 0) := by
        rw [List.map_map, List.map_map]
        refine List.map_congr_left fun x hx => ?_
        obtain ⟨k, hk, hr⟩ := hrd x hx
        simp only [Function.comp]
        rw [WideElems.rg_of hr, hk]
        rfl
      rw [e2, this, List.map_map]
      rfl
    rw [e1]
  · have : (es.toList.map (WideElems.rg Try.prog 3 fun _ => some ((.nil : DataW Unit), []))).length = l.length := by rw [List.length_map, Array.length_toList, hel]
    rw [← this]
    exact length_sorted _
theorem sortsA (m : Nat) : AnyZI.SortsIn Try.prog sortedA_ren Fence.wide m :=
  ⟨fun blk off cap ss W hH hblk hsz => callsIn_wide.2 (AnyM.slices_Sort_int sortA blk off cap ss W hH hblk hsz),
   fun p cap W => callsIn_wide.2 (AnyM.slices_Sort_int_none sortA p cap W)⟩
theorem keys_spec (b : Nat) (w : World) : CallP Try.prog 67 #[.map (some b)] (fun r w' => r = .func (.func 83) #[] #[.pointer (some ⟨w.heap.size, 0, none⟩)] ∧ w' = w.alloc (.cells #[.map (some b)] 116)) w := by
  have h : CallsIn Fence.wide 5 Try.prog 67 #[.map (some b)] w fun e w' => e = .returned (.func (.func 83) #[] #[.pointer (some ⟨w.heap.size, 0, none⟩)]) ∧ w' = w.alloc (.cells #[.map (some b)] 116) := AnyZI.keys_in keysA Fence.wide 5 trivial rfl (some b) w
  exact ⟨(callsIn_wide.1 h).mono fun e w' ⟨h1, h2⟩ => ⟨_, h1, rfl, h2⟩⟩
theorem sorted_spec (b g : Nat) (l : List (Int × Value)) (w : World) (h : MapI w b l) (hg : w.cell? ⟨g, 0, none⟩ = some (.map (some b))) (hl : l.length ≤ 1000000) :
    CallP Try.prog 66 #[.func (.func 83) #[] #[.pointer (some ⟨g, 0, none⟩)]] (fun r w' => Own 3 w' r (((l.map (·.1)).mergeSort leI).map (Value.int .i64)) ∧ Fresh w.heap.size r ∧ Below w.heap.size w w') w := by
  obtain ⟨D0, hown, hperm, hsize⟩ := h.owns
  have hseq : SeqGives Fence.wide 2 Try.prog 83 #[.pointer (some ⟨g, 0, none⟩)] encZ (fun ss => ss.Perm (intKeys D0)) (Maps.size D0) w :=
    AnyZI.keys_gives (ρ := keysA_ren) { keysA with } Fence.wide _ trivial rfl (by omega) g b l.length D0 _ (World.block_lt_of_cell? _ _ hg) hg hown
  have cS := AnyZI.sorted_in sortedA Fence.wide 5 trivial trivial trivial trivial rfl (by omega) (sortsA _) (enters_of Try.func82 (by kernel_rfl) rfl) 83 #[.pointer (some ⟨g, 0, none⟩)] trivial (enters_of Try.func83 (by kernel_rfl) rfl) _ _ (by rw [hsize]; simp only [maxLen]; omega) (by rw [hsize]; omega) _ hseq
  change CallsIn _ _ Try.prog 66 _ _ _ at cS
  refine ⟨(callsIn_wide.1 cS).mono fun e w' ⟨v, ss, h1, hS, hrow, hnil, hb⟩ => ⟨v, h1, ?_, ?_, hb⟩⟩
  · have e1 : ss.mergeSort (fun x y => decide (x ≤ y)) = (l.map (·.1)).mergeSort leI := mergeSort_of_perm_i (hS.trans hperm)
    rw [e1] at hrow
    have hlen : (((l.map (·.1)).mergeSort leI).map (Value.int .i64)).length = ss.length := by
      rw [List.length_map, ← e1, List.length_mergeSort]
    refine ⟨by simp, ?_⟩
    rw [hlen]
    rcases hrow.2 with h | ⟨gb, cap, cur, rfl, hbase, hgb, r1, r2, r3, r4⟩
    · exact .inl h
    · exact .inr ⟨gb, cap, cur, rfl, Nat.zero_le _, hgb, r1, r2, r3, r4⟩
  · intro k hk
    rcases hrow.2 with ⟨rfl, _⟩ | ⟨gb, cap, cur, rfl, hbase, _⟩
    · cases hk
    · have : gb = k := by simpa [Value.ownBlock] using hk
      omega
theorem Under_net (c : Nat → Nat) (w : World) (g last : Nat) (l : List (Int × Msg)) (h : NetC c w g last l) (hl : l.length ≤ 1000000) :
    CallP Try.prog 43 #[.pointer (some ⟨g, 0, none⟩)] (fun r w' => Own 3 w' r (((l.map (·.1)).mergeSort leI).map (Value.int .i64)) ∧ Fresh w.heap.size r ∧ Below w.heap.size w w') w := by
  obtain ⟨b, h⟩ := h
  have c0 : w.cell? ⟨g, 0, none⟩ = some (.map (some b)) := h.blk.cell 0
  refine ⟨S43.calls _ _ _ ?_⟩
  unfold S43
  (repeat with_reducible first | refine fd n0 (by decide) ?_| refine ld one116 c0 ?_|refine z_a ?_|refine z_b ?_|refine z_c ?_|refine z_d ?_|refine z_e ?_|refine z_f ?_|refine z_g ?_|refine z_h ?_|refine z_i ?_|refine z_j ?_|refine z_k ?_|refine z_l ?_|refine z_m (by omega) ?_|refine z_n (by omega) ?_|refine z_o (by omega) ?_|refine z_p (by omega) ?_|refine z_q (by omega) ?_|refine z_r (by omega) ?_|refine z_s (by omega) ?_|refine z_t (by omega) ?_|refine z_u (by omega) ?_|refine z_v (by omega) ?_|refine z_w (by omega) ?_|refine z_x (by omega) ?_|refine z_y (by omega) ?_|refine z_z (by omega) ?_|refine z_A ?_|refine z_B ?_|refine z_C ?_|refine z_D ?_|refine z_E ?_|refine z_F ?_|refine z_G ?_|refine z_H ?_|refine z_I ?_|refine z_J ?_|refine z_K (by omega) (by decide) ?_|refine z_L (by omega) (by decide) ?_|refine z_M (by omega) ?_|refine z_N (by omega) ?_|refine z_O (by omega) ?_|refine z_P ?_|refine z_Q ?_|refine z_R ?_|refine z_S ?_|refine z_T ?_|refine z_U (by decide) ?_|refine z_V (by decide) ?_)
  refine (keys_spec b w).mono ?_
  rintro _ _ ⟨rfl, rfl⟩
  have hb := (Below.refl w.heap.size w).alloc (Nat.le_refl _) (.cells #[.map (some b)] 116)
  have hB : Blk (w.alloc (.cells #[.map (some b)] 116)) w.heap.size 116 #[.map (some b)] := Blk.new w 116 _
  refine (sorted_spec b w.heap.size _ _ (h.map.below hb) (hB.cell 0) (by rw [List.length_map]; exact hl)).mono ?_
  rintro r w' ⟨h1, h2, h3⟩
  rw [List.map_map] at h1
  exact ⟨h1, fun k hk => by have := h2 k hk; have := hb.size; omega, below_then hb h3⟩
end Go.Proofs.Ythicbfopjakiiaa.E
namespace Go.Proofs.Ythicbfopjakiiaa.E
open Go Go.RowKit
set_option linter.unusedSimpArgs false
set_option linter.unusedVariables false

end Go.Proofs.Ythicbfopjakiiaa.E
