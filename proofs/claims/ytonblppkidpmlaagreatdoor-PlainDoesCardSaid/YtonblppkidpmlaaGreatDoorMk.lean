import Derived.Test.YtonblppkidpmlaaGreatDoorMj
import Derived.Shelf.SlIter.Nil
import Derived.Shelf.SortM.Plain
import Derived.Shelf.SortM.SortNone
import Derived.Test.YtonblppkidpmlaaGreatDoorProg
import Derived.StringKeys
namespace Go.Proofs.YtonblppkidpmlaaGreatDoor.E
open Go Go.RowKit
set_option linter.unusedSimpArgs false
set_option linter.unusedVariables false

section
variable {α : Type} {f : α → List Value} {s : Nat} {e : TypeId} {w0 w w1 : World} {v : Value} {l : List α}
/-- One more; what was turned. -/
theorem OwnL.pushT {P : Program} {K : Value → World → Prop} {t ty : TypeId} {cs : Array Bool} {z : Value} {bytes : Nat} (hu : P.underlying t = some (.slice e)) (hinfo : (P.info? e).map (fun i => (i.zero, i.size, i.bytes)) = some (some z, s, bytes)) (hz : z.cells.size = s) (hs : 0 < s) (hf : ∀ x, (f x).length = s)
    (h1 : ∀ x, ∀ u ∈ f x, u.oneCell' = true) (h : OwnL f s e w0 w v l) (hl : l.length ≤ 1000000) (hby : bytes ≤ 1000) (x : α)
    (hb : (Instr.buildSlice t 1 #[(0, .agg (f x).toArray)]).run P w = .ok (.slice (some ⟨w.heap.size, 0, none⟩) 1 1) (w.alloc (.cells (f x).toArray e)))
    (k : ∀ v' w', OwnL f s e w0 w' v' (l ++ [x]) → Turns (fun j => v.ownBlock = some j) w w' → K v' w') :
    LiftP P (Instr.buildSlice t 1 #[(0, .agg (f x).toArray)]) (fun u w => NextP P (builtin .append #[t, t] ty cs #[v, u]) K w) w := by
  refine apOne (us := f x) hu hinfo hz hs h.own (hf _) (h1 _) (by omega) (Nat.le_trans (Nat.mul_le_mul (show l.length + 1 ≤ 1000001 by omega) hby) (by decide)) hb ?_
  intro v2 w2 ho2 hbl2 hT2
  have e : (l ++ [x]).flatMap f = l.flatMap f ++ f x := by simp
  refine k v2 w2 ⟨by rw [e, List.length_append]; exact ho2, h.fresh.one h.bel.size hbl2, h.bel.trans (hT2.fresh h.fresh h.bel.size)⟩ hT2
/-- A row's block is no iterator's. -/
theorem OwnL.ne_iter (h : OwnL f s e w0 w v l) {b r : Nat} {L : List (Txt × Value)} {todo : List Txt} (hm : T.MapR w b r L todo) : v.ownBlock ≠ some r := by
  intro he
  obtain ⟨es, clock, since, seen, c0, _, _, _, _, _, h6, _⟩ := hm
  rcases h.own.2 with ⟨rfl, _⟩ | ⟨g, cap, cur, rfl, _, hg, _⟩
  · cases he
  · cases he
    rw [hg] at h6
    cases h6
end
open Classical in
theorem LoopP.inv1n {body : (List Value → World → Prop) → List Value → World → Prop} {a : Value} {w : World} (I : Nat → Value → World → Prop) (n0 : Nat) (h0 : I n0 a w)
    (hr : ∀ n x w', I n x w' → ∀ J : List Value → World → Prop, (∀ m y w'', m < n → I m y w'' → J [y] w'') → body J [x] w') : LoopP body [a] w := by
  refine LoopP.inv1 (fun x w' => ∃ n, I n x w') (fun x w' => if h : ∃ n, I n x w' then Classical.choose (exists_min (I := fun n => I n x w') _ h.choose_spec) else 0) ⟨n0, h0⟩ ?_
  intro x w' hI J hJ
  have hmin := Classical.choose_spec (exists_min (I := fun n => I n x w') _ hI.choose_spec)
  refine hr _ x w' hmin.1 J fun m y w'' hm hI' => hJ y w'' ⟨m, hI'⟩ ?_
  rw [dif_pos (⟨m, hI'⟩ : ∃ n, I n y w''), dif_pos hI]
  exact Nat.lt_of_le_of_lt ((Classical.choose_spec (exists_min (I := fun n => I n y w'') _ (⟨m, hI'⟩ : ∃ n, I n y w'').choose_spec)).2 m hI') hm
theorem undEn : Tryz.prog.underlying 102 = some (.slice 105) := by kernel_rfl
theorem infEn : (Tryz.prog.info? 105).map (fun i => (i.zero, i.size, i.bytes)) = some (some (.agg (enA ([], []))), 2, 32) := by kernel_rfl
theorem szEn : (Tryz.prog.info? 105).map (·.size) = some 2 := by kernel_rfl
theorem aggEn : aggB Tryz.prog 105 = true := by kernel_rfl
theorem zEn : (Tryz.prog.info? 105).bind (·.zero) = some (.agg (enA ([], []))) := by kernel_rfl
theorem nil_iff_sub {todo : List Txt} {keys dn : List Txt} (hdn : dn.Nodup) (hk : keys.Nodup) (hm : ∀ k, k ∈ dn ↔ k ∈ keys ∧ k ∉ todo) (h0 : todo = []) : dn.Perm keys :=
  (List.perm_ext_iff_of_nodup hdn hk).2 fun k => by rw [hm, h0]; simp
theorem nodup_len {dn keys : List Txt} (hd : dn.Nodup) (hk : keys.Nodup) (h : ∀ k ∈ dn, k ∈ keys) : dn.length ≤ keys.length := by
  have hp : dn.Perm (keys.filter fun k => decide (k ∈ dn)) := (List.perm_ext_iff_of_nodup hd (hk.filter _)).2 fun k => by
    rw [List.mem_filter, decide_eq_true_iff]
    exact ⟨fun e => ⟨h k e, e⟩, fun e => e.2⟩
  rw [hp.length_eq]
  exact List.length_filter_le _ _
theorem filterMap_keys {α β : Type} (F : Txt × α → Option β) : ∀ (L : List (Txt × α)), (L.map (·.1)).Nodup → (L.map (·.1)).filterMap (fun k => (T.getK k L).bind fun r => F (k, r)) = L.filterMap F := by
  intro L hn
  have : ∀ (A : List (Txt × α)), (∀ p ∈ A, T.getK p.1 L = some p.2) → (A.map (·.1)).filterMap (fun k => (T.getK k L).bind fun r => F (k, r)) = A.filterMap F := by
    intro A
    induction A with
    | nil => intro _; rfl
    | cons p t ih =>
      intro h
      have h0 := h p (by simp)
      rw [List.map_cons, List.filterMap_cons, List.filterMap_cons, h0, Option.bind_some, ih fun q hq => h q (List.mem_cons_of_mem _ hq)]
  exact this L fun p hp => T.getK_of_mem hn (by cases p; exact hp)
theorem getT_map {α β : Type} (k : Txt) (f : α → β) : ∀ L : List (Txt × α), T.getK k (L.map fun p => (p.1, f p.2)) = (T.getK k L).map f
  | [] => rfl
  | (a, x) :: r => by
    rw [List.map_cons, T.getK, T.getK, getT_map k f r]
    split <;> rfl
theorem getK_mkv (k : Txt) (M : List Mm) : T.getK k (M.map mkv) = (T.getK k M).map (·.1) := getT_map k (·.1) M
theorem getK_mkr (k : Txt) (M : List Mm) : T.getK k (M.map mkr) = (T.getK k M).map (·.2) := getT_map k (·.2) M
theorem keys_mkv (M : List Mm) : (M.map mkv).map (·.1) = M.map (·.1) := by rw [List.map_map]; rfl
theorem keys_mkr (M : List Mm) : (M.map mkr).map (·.1) = M.map (·.1) := by rw [List.map_map]; rfl
/-- The entry of a key. -/
noncomputable def entK (id : Int) (fs : List Int) (low high : List ValT) (R : RowsT) (k : Txt) : Option En := (T.getK k R).bind fun r => entOf id fs low high (k, r)
theorem entries58 {hu : Nat} {c : Nat → Nat} {w : World} {g b : Nat} {vX : Value} {M : List Mm} {X : List Xm} (h : PlAt hu c w g b vX M X) (hR : ∀ p ∈ M.map mkr, (1 ≤ p.1.length ∧ p.1.length ≤ 16) ∧ recE p.2 = 0) (hn : M.length ≤ 100000)
    (id : Int) (vf vl vh : Value) (fs : List Int) (low high : List ValT) (hf : Rd w vf (iV fs)) (hlo : Vals w [vl] low) (hhi : Vals w [vh] high) (hm : GMx w) :
    CallP Tryz.prog 58 #[.pointer (some ⟨g, 0, none⟩), .agg #[.int .i64 id, vf], vl, vh] (fun r w' => ∃ L, L.Perm ((M.map mkr).filterMap (entOf id fs low high)) ∧ (L.Pairwise fun a b => ¬ b.1 < a.1) ∧ OwnE w.heap.size w' r L ∧ Below w.heap.size w w') w := by
  have hnod : (M.map (·.1)).Nodup := by rw [← keys_mkv]; exact h.map.nodup
  obtain ⟨Al, cl, rfl, _⟩ := hlo.slice
  obtain ⟨Ah, ch, rfl, _⟩ := hhi.slice
  refine ⟨S58.calls _ _ _ _ _ _ ?_⟩
  unfold S58
  refine bxB ?_
  intro g1 w1 hg1 hB1 hb1
  have h1 := h.below hb1
  have q0 : w1.cell? ⟨g, 0, none⟩ = some (.map (some b)) := h1.blk.cell 0
  (repeat with_reducible first|refine fd p0 (by decide) ?_|refine ld oneMp q0 ?_|refine z_a ?_)
  refine T.rng undMp h1.map ?_
  intro w2 hit hb2
  rw [keys_mkv] at hit
  refine LoopP.inv1n (fun n rv w' => ∃ (todo dn : List Txt), todo.length = n ∧ T.MapR w' b w1.heap.size (M.map mkv) todo ∧ dn.Nodup ∧ (∀ k, k ∈ dn ↔ k ∈ M.map (·.1) ∧ k ∉ todo) ∧ OwnL enF 2 105 w1 w' rv (dn.filterMap (entK id fs low high (M.map mkr)))) _ ⟨M.map (·.1), [], rfl, hit, by simp, by simp, OwnL.nil hb2⟩ ?_
  rintro n rv w3 ⟨todo, dn, rfl, hit, hdn, hmem, ho⟩ J hJ
  dsimp only [List.headD_cons, List.tail_cons]
  have hLl : (dn.filterMap (entK id fs low high (M.map mkr))).length ≤ 100000 := by
    have h1 := List.length_filterMap_le (entK id fs low high (M.map mkr)) dn
    have h2 : dn.length ≤ (M.map (·.1)).length := nodup_len hdn hnod fun k hk => ((hmem k).1 hk).1
    rw [List.length_map] at h2
    omega
  refine T.nxt hit (fun h0 => ?_) ?_
  · (repeat with_reducible first|refine z_c ?_|refine z_A ?_)
    have hdk := nil_iff_sub hdn hnod hmem h0
    have hb03 := below_then hb1 ho.bel
    refine (sort80 rv _ hLl w1.heap.size w3 ho.bel.size ⟨OwnR.of_own ho.own, ho.fresh⟩).mono ?_
    rintro _ w4 ⟨L', hp, hs, hoE, hb4⟩
    refine ⟨L', hp.trans ((hdk.filterMap _).trans ?_), hs, ⟨hoE.1, fun k hk => Nat.le_trans hb1.size (hoE.2 k hk)⟩, hb03.trans (hb4.mono hb1.size)⟩
    rw [← keys_mkr]
    exact List.Perm.of_eq (filterMap_keys (entOf id fs low high) (M.map mkr) (by rw [keys_mkr]; exact hnod))
  intro k v w4 hk hget hit4 hT4 hent
  have hb14 : Below w1.heap.size w1 w4 := below_own ho.bel hT4 (Nat.le_refl _)
  have hb04 := below_then hb1 hb14
  have ho4 : OwnL enF 2 105 w1 w4 rv (dn.filterMap (entK id fs low high (M.map mkr))) := ⟨ownsRow_turns ho.own hT4 fun j hj e => ho.ne_iter hit (by rw [hj, e]), ho.fresh, hb14⟩
  rw [getK_mkv] at hget
  obtain ⟨⟨v', rec⟩, hgM, he⟩ := Option.map_eq_some_iff.1 hget
  simp only at he
  subst he
  have hmM := getT_mem hgM
  have hkM : k ∈ M.map (·.1) := List.mem_map.2 ⟨_, hmM, rfl⟩
  have hrec : T.getK k (M.map mkr) = some rec := by rw [getK_mkr, hgM]; rfl
  have hVS := (h.ms _ hmM).rd
  have hpr := hR (k, rec) (List.mem_map.2 ⟨_, hmM, rfl⟩)
  have hkdn : k ∉ dn := fun e => ((hmem k).1 e).2 hk
  have hmem' : ∀ j, j ∈ dn ++ [k] ↔ j ∈ M.map (·.1) ∧ j ∉ todo.filter (fun j => decide (j ≠ k)) := fun j => by
    rw [List.mem_append, hmem, List.mem_filter, List.mem_singleton]
    constructor
    · rintro (⟨h1, h2⟩ | rfl)
      · exact ⟨h1, fun e => h2 e.1⟩
      · exact ⟨hkM, fun e => by simp at e⟩
    · rintro ⟨h1, h2⟩
      by_cases e : j = k
      · exact .inr e
      · exact .inl ⟨h1, fun e' => h2 ⟨e', by simpa using e⟩⟩
  have hdn' : (dn ++ [k]).Nodup := by
    rw [List.nodup_append]
    exact ⟨hdn, by simp, fun a ha b hb e => by simp at hb; rw [e, hb] at ha; exact hkdn ha⟩
  have hlt : (todo.filter (fun j => decide (j ≠ k))).length < todo.length := by
    rw [← List.countP_eq_length_filter]
    refine Nat.lt_of_le_of_ne List.countP_le_length fun e => ?_
    rw [List.countP_eq_length] at e
    simpa using e k hk
  have hEnt : (dn ++ [k]).filterMap (entK id fs low high (M.map mkr)) = dn.filterMap (entK id fs low high (M.map mkr)) ++ (entOf id fs low high (k, rec)).toList := by
    rw [List.filterMap_append]
    congr 1
    simp only [List.filterMap_cons, List.filterMap_nil, entK, hrec, Option.bind_some]
    cases entOf id fs low high (k, rec) <;> rfl
  have nope : entOf id fs low high (k, rec) = none → ∀ w', Below w4.heap.size w4 w' → J [rv] w' := fun hno w' hb => by
    refine hJ _ _ _ hlt ⟨_, dn ++ [k], rfl, hit4.below hb, hdn', hmem', ?_⟩
    rw [hEnt, hno, Option.toList_none, List.append_nil]
    exact ho4.kept hb
  (repeat with_reducible first|refine z_b ?_|refine z_A ?_)
  refine lift hent ?_
  have hB4 := hB1.below' hb14
  (repeat with_reducible first|refine z_A ?_|refine z_B ?_)
  refine ldA aggIx hB4 (by exact szIx) ?_
  refine (Shows77 id vf fs v' rec w4 (hf.below hb04) (keeps_Vals _ _ _ _ hb04 hVS)).mono ?_
  intro r w5 hsr
  cases hsv : showV id fs rec with
  | none =>
    rw [hsr.no hsv]
    (repeat with_reducible first|refine z_c ?_|refine z_e ?_|refine z_l ?_|refine z_A ?_|refine z_B ?_)
    exact nope (by unfold entOf; rw [hsv]) _ hsr.bel
  | some key =>
  obtain ⟨⟨vk, rfl, hok⟩, hvok⟩ := hsr.yes key hsv
  have hkey := showV_ok (vals_ok hVS) hsv
  have hb05 := below_then hb04 hsr.bel
  (repeat with_reducible first|refine z_d ?_|refine z_A ?_|refine z_B ?_)
  refine (Lies78 vk _ _ key low high w5 (hok.vals hvok) (keeps_Vals _ _ _ _ hb05 hlo) (keeps_Vals _ _ _ _ hb05 hhi) (hm.below hb05)).mono ?_
  rintro _ w6 ⟨rfl, hb6⟩
  have hb46 := below_then hsr.bel hb6
  have hb06 := below_then hb05 hb6
  cases hl : liesV key low high with
  | false =>
    (repeat with_reducible first|refine z_c ?_|refine z_k ?_)
    refine nope ?_ _ hb46
    unfold entOf
    rw [hsv]
    simp only [hl]
    rfl
  | true =>
  have hent' : entOf id fs low high (k, rec) = some (entT id key k, k) := by
    unfold entOf
    rw [hsv]
    simp only [hl]
    rfl
  have hB6 := hB4.below' hb46
  obtain ⟨hid, _⟩ := ckX_0 (id := id) (fs := fs) (by
    unfold showV at hsv
    split at hsv
    · cases hsv
    · rename_i hn; exact Classical.not_not.1 fun e => hn (.inl e))
  have c60 : w6.cell? ⟨g1, 0, none⟩ = some (.int .i64 id) := hB6.cell 0
  (repeat with_reducible first|refine fd x0 (by decide) ?_|refine ld one3 c60 ?_|refine z_b ?_|refine z_k ?_)
  refine (Entry79 id vk key k w6 hid ((hok.kept hb6).vals hvok) hkey.1 hpr.1 (hm.below hb06)).mono ?_
  rintro _ w7 ⟨rfl, hb7⟩
  have hb47 := below_then hb46 hb7
  (repeat with_reducible first|refine z_A ?_|refine z_B ?_)
  refine bd (cells := enA (entT id key k, k)) (by kernel_rfl) ?_
  refine (ho4.kept hb47).pushT undEn infEn (by rfl) (by decide) enF_len enF_one (by omega) (by omega) (entT id key k, k) (by kernel_rfl) ?_
  intro v8 w8 ho8 hT8
  refine hJ _ _ _ hlt ⟨_, dn ++ [k], rfl, ?_, hdn', hmem', ?_⟩
  · refine (hit4.below hb47).turns hT8 (fun e => ?_) (ho4.ne_iter hit4)
    have h1 := ho.fresh b e
    have h2 := h.map.lt
    have h3 := hb1.size
    omega
  · rw [hEnt, hent']
    exact ho8
end Go.Proofs.YtonblppkidpmlaaGreatDoor.E
namespace Go.Proofs.YtonblppkidpmlaaGreatDoor.E
open Go Go.Proofs Go.Shelf

def keysA_ren : Go.Shelf.Ren := ⟨fun | 7 => 49 | 10 => 74 | n => n, fun | 23 => 80 | 26 => 9 | 3 => 23 | 28 => 88 | 0 => 0 | 27 => 87 | 33 => 71 | 4 => 4 | n => n, fun | n => n⟩
theorem keysA : Go.Proofs.SlLaysZ.n7 Tryz.prog keysA_ren := {
  mixed := by kernel_rfl
  f7 := ⟨Tryz.f49.name, by decide, Tryz.func49.trans (congrArg some (by kernel_rfl))⟩
  f10 := ⟨Tryz.f74.name, by decide, Tryz.func74.trans (congrArg some (by kernel_rfl))⟩
  t0 := Tryz.underlying0
  a0 := Tryz.isAgg0
  z0 := Tryz.sizeOf0
  v0 := Tryz.zeroValue0
  t4 := Tryz.underlying4
  a4 := Tryz.isAgg4
  z4 := Tryz.sizeOf4
  v4 := Tryz.zeroValue4
  t23 := Tryz.underlying80
  a23 := Tryz.isAgg80
  z23 := Tryz.sizeOf80
  v23 := Tryz.zeroValue80
  t26 := Tryz.underlying9
  a26 := Tryz.isAgg9
  z26 := Tryz.sizeOf9
  v26 := Tryz.zeroValue9
  t27 := Tryz.underlying87
  a27 := Tryz.isAgg87
  z27 := Tryz.sizeOf87
  v27 := Tryz.zeroValue87
  t28 := Tryz.underlying88
  a28 := Tryz.isAgg88
  z28 := Tryz.sizeOf88
  v28 := Tryz.zeroValue88
  t33 := Tryz.underlying71
  a33 := Tryz.isAgg71
  z33 := Tryz.sizeOf71
  v33 := Tryz.zeroValue71 }
def sortedA_ren : Go.Shelf.Ren := ⟨fun | 6 => 48 | 8 => 72 | 9 => 73 | 11 => 88 | 13 => 90 | 12 => 89 | 23 => 112 | 24 => 113 | 14 => 103 | 15 => 104 | 16 => 105 | 17 => 106 | 18 => 107 | 19 => 108 | 20 => 109 | 21 => 110 | 22 => 111 | 25 => 129 | 26 => 130 | 27 => 131 | 28 => 132 | 29 => 133 | 30 => 98 | 31 => 144 | n => n, fun | 26 => 9 | 28 => 88 | 24 => 59 | 0 => 0 | 3 => 3 | 37 => 131 | 48 => 149 | 50 => 138 | 4 => 4 | 40 => 142 | 39 => 141 | 45 => 92 | 5 => 5 | 9 => 9 | 51 => 162 | 55 => 166 | 57 => 181 | 58 => 182 | 33 => 71 | n => n, fun | n => n⟩
theorem sortedA : Go.Proofs.SlLaysZ.n6 Tryz.prog sortedA_ren := {
  mixed := by kernel_rfl
  f6 := ⟨Tryz.f48.name, by decide, Tryz.func48.trans (congrArg some (by kernel_rfl))⟩
  f8 := ⟨Tryz.f72.name, by decide, Tryz.func72.trans (congrArg some (by kernel_rfl))⟩
  f11 := ⟨Tryz.f88.name, by decide, Tryz.func88.trans (congrArg some (by kernel_rfl))⟩
  t0 := Tryz.underlying0
  a0 := Tryz.isAgg0
  z0 := Tryz.sizeOf0
  v0 := Tryz.zeroValue0
  t24 := Tryz.underlying59
  a24 := Tryz.isAgg59
  z24 := Tryz.sizeOf59
  v24 := Tryz.zeroValue59
  t26 := Tryz.underlying9
  a26 := Tryz.isAgg9
  z26 := Tryz.sizeOf9
  v26 := Tryz.zeroValue9
  t28 := Tryz.underlying88
  a28 := Tryz.isAgg88
  z28 := Tryz.sizeOf88
  v28 := Tryz.zeroValue88
  i26 := by kernel_rfl }
def sortA_ren : Go.Shelf.Ren := ⟨fun | 6 => 73 | 8 => 90 | 9 => 89 | 19 => 112 | 20 => 113 | 21 => 103 | 22 => 104 | 23 => 105 | 24 => 106 | 25 => 107 | 26 => 108 | 27 => 109 | 28 => 110 | 29 => 111 | 36 => 129 | 31 => 130 | 32 => 131 | 37 => 132 | 38 => 133 | 39 => 98 | 41 => 144 | n => n, fun | 27 => 59 | 29 => 9 | 3 => 3 | 32 => 131 | 26 => 59 | 0 => 0 | 44 => 149 | 46 => 138 | 4 => 4 | 36 => 142 | 35 => 141 | 41 => 92 | 5 => 5 | 9 => 9 | 53 => 162 | 57 => 166 | 63 => 181 | 64 => 182 | n => n, fun | n => n⟩
theorem sortA : Go.Proofs.SlLaysM.n6 Tryz.prog sortA_ren := {
  mixed := by kernel_rfl
  f6 := ⟨Tryz.f73.name, by decide, Tryz.func73.trans (congrArg some (by kernel_rfl))⟩
  f8 := Tryz.func90.trans (congrArg some (by kernel_rfl))
  f9 := ⟨Tryz.f89.name, by decide, Tryz.func89.trans (congrArg some (by kernel_rfl))⟩
  f19 := Tryz.func112.trans (congrArg some (by kernel_rfl))
  f20 := Tryz.func113.trans (congrArg some (by kernel_rfl))
  f21 := ⟨Tryz.f103.name, by decide, Tryz.func103.trans (congrArg some (by kernel_rfl))⟩
  f22 := ⟨Tryz.f104.name, by decide, Tryz.func104.trans (congrArg some (by kernel_rfl))⟩
  f23 := ⟨Tryz.f105.name, by decide, Tryz.func105.trans (congrArg some (by kernel_rfl))⟩
  f24 := ⟨Tryz.f106.name, by decide, Tryz.func106.trans (congrArg some (by kernel_rfl))⟩
  f25 := ⟨Tryz.f107.name, by decide, Tryz.func107.trans (congrArg some (by kernel_rfl))⟩
  f26 := ⟨Tryz.f108.name, by decide, Tryz.func108.trans (congrArg some (by kernel_rfl))⟩
  f27 := ⟨Tryz.f109.name, by decide, Tryz.func109.trans (congrArg some (by kernel_rfl))⟩
  f28 := ⟨Tryz.f110.name, by decide, Tryz.func110.trans (congrArg some (by kernel_rfl))⟩
  f29 := ⟨Tryz.f111.name, by decide, Tryz.func111.trans (congrArg some (by kernel_rfl))⟩
  f31 := Tryz.func130.trans (congrArg some (by kernel_rfl))
  f32 := Tryz.func131.trans (congrArg some (by kernel_rfl))
  f36 := ⟨Tryz.f129.name, by decide, Tryz.func129.trans (congrArg some (by kernel_rfl))⟩
  f37 := ⟨Tryz.f132.name, by decide, Tryz.func132.trans (congrArg some (by kernel_rfl))⟩
  f38 := ⟨Tryz.f133.name, by decide, Tryz.func133.trans (congrArg some (by kernel_rfl))⟩
  f39 := ⟨Tryz.f98.name, by decide, Tryz.func98.trans (congrArg some (by kernel_rfl))⟩
  f41 := ⟨Tryz.f144.name, by decide, Tryz.func144.trans (congrArg some (by kernel_rfl))⟩
  t0 := Tryz.underlying0
  a0 := Tryz.isAgg0
  z0 := Tryz.sizeOf0
  v0 := Tryz.zeroValue0
  t3 := Tryz.underlying3
  a3 := Tryz.isAgg3
  z3 := Tryz.sizeOf3
  v3 := Tryz.zeroValue3
  t4 := Tryz.underlying4
  a4 := Tryz.isAgg4
  z4 := Tryz.sizeOf4
  v4 := Tryz.zeroValue4
  t5 := Tryz.underlying5
  a5 := Tryz.isAgg5
  z5 := Tryz.sizeOf5
  v5 := Tryz.zeroValue5
  t9 := Tryz.underlying9
  a9 := Tryz.isAgg9
  z9 := Tryz.sizeOf9
  v9 := Tryz.zeroValue9
  t26 := Tryz.underlying59
  a26 := Tryz.isAgg59
  z26 := Tryz.sizeOf59
  v26 := Tryz.zeroValue59
  t27 := Tryz.underlying59
  a27 := Tryz.isAgg59
  z27 := Tryz.sizeOf59
  v27 := Tryz.zeroValue59
  t29 := Tryz.underlying9
  a29 := Tryz.isAgg9
  z29 := Tryz.sizeOf9
  v29 := Tryz.zeroValue9
  t32 := Tryz.underlying131
  a32 := Tryz.isAgg131
  z32 := Tryz.sizeOf131
  v32 := Tryz.zeroValue131
  t35 := Tryz.underlying141
  a35 := Tryz.isAgg141
  z35 := Tryz.sizeOf141
  v35 := Tryz.zeroValue141
  t36 := Tryz.underlying142
  a36 := Tryz.isAgg142
  z36 := Tryz.sizeOf142
  v36 := Tryz.zeroValue142
  t41 := Tryz.underlying92
  a41 := Tryz.isAgg92
  z41 := Tryz.sizeOf92
  v41 := Tryz.zeroValue92
  t44 := Tryz.underlying149
  a44 := Tryz.isAgg149
  z44 := Tryz.sizeOf149
  v44 := Tryz.zeroValue149
  t46 := Tryz.underlying138
  a46 := Tryz.isAgg138
  z46 := Tryz.sizeOf138
  v46 := Tryz.zeroValue138
  t53 := Tryz.underlying162
  a53 := Tryz.isAgg162
  z53 := Tryz.sizeOf162
  v53 := Tryz.zeroValue162
  t57 := Tryz.underlying166
  a57 := Tryz.isAgg166
  z57 := Tryz.sizeOf166
  v57 := Tryz.zeroValue166
  t63 := Tryz.underlying181
  a63 := Tryz.isAgg181
  z63 := Tryz.sizeOf181
  v63 := Tryz.zeroValue181
  t64 := Tryz.underlying182
  a64 := Tryz.isAgg182
  z64 := Tryz.sizeOf182
  v64 := Tryz.zeroValue182 }
end Go.Proofs.YtonblppkidpmlaaGreatDoor.E
namespace Go.Proofs.YtonblppkidpmlaaGreatDoor.E
open Go Go.Proofs Go.RowKit Go.Maps Go.Sort Go.Shelf
set_option linter.unusedSimpArgs false
set_option linter.unusedVariables false

/-- A row of texts of the call's own. -/
structure OwnTx (w0 w : World) (v : Value) (ks : List Txt) : Prop where
  own : Own 9 w v (ks.map tS)
  fresh : Fresh w0.heap.size v
  bel : Below w0.heap.size w0 w
theorem undTx : Tryz.prog.underlying 59 = some (.slice 9) := by kernel_rfl
theorem inf9 : (Tryz.prog.info? 9).map (fun i => (i.zero, i.size, i.bytes)) = some (some (.string ⟨#[]⟩), 1, 16) := by kernel_rfl
theorem txs_one (ks : List Txt) : ∀ u ∈ ks.map tS, u.oneCell' = true := by
  intro u hu
  obtain ⟨k, _, rfl⟩ := List.mem_map.1 hu
  rfl
theorem OwnTx.push {K : Value → World → Prop} {w0 w : World} {v : Value} {ks : List Txt} (h : OwnTx w0 w v ks) (hl : ks.length ≤ 1000000) (k : Txt) (kk : ∀ v' w', OwnTx w0 w' v' (ks ++ [k]) → K v' w') :
    LiftP Tryz.prog (Instr.buildSlice 59 1 #[(0, tS k)]) (fun u w => NextP Tryz.prog (builtin .append #[59, 59] 59 #[false, false] #[v, u]) K w) w := by
  refine lift (v := .slice (some ⟨w.heap.size, 0, none⟩) 1 1) (w' := w.alloc (.cells #[tS k] 9)) (by kernel_rfl) ?_
  have ha := (Below.refl w.heap.size w).alloc (Nat.le_refl _) (.cells #[tS k] 9)
  have hb1 := below_then h.bel ha
  refine apF w0.heap.size undTx inf9 (by rfl) (by decide) (h.own.below ha) h.fresh hb1.size (ys := [tS k]) (Own.new w 9 [tS k] (by simp)).rd (txs_one [k]) (by simp only [List.length_map, List.length_cons, List.length_nil]; omega) ?_
  intro v' w' ho' hf' hb' _
  refine kk v' w' ⟨?_, hf', hb1.trans hb'⟩
  rw [List.map_append]
  exact ho'
theorem OwnTx.nil {w0 w : World} (hb : Below w0.heap.size w0 w) : OwnTx w0 w (.slice none 0 0) [] := ⟨Own.nil _ _, Fresh.nil _, hb⟩
theorem OwnTx.kept {w0 w w1 : World} {v : Value} {ks : List Txt} (h : OwnTx w0 w v ks) (hb : Below w.heap.size w w1) : OwnTx w0 w1 v ks := ⟨h.own.below hb, h.fresh, below_then h.bel hb⟩
theorem OwnTx.old {w0' w0 w : World} {v : Value} {ks : List Txt} (h : OwnTx w0 w v ks) (hb : Below w0'.heap.size w0' w0) : OwnTx w0' w v ks := ⟨h.own, fun k hk => Nat.le_trans hb.size (h.fresh k hk), below_then hb h.bel⟩
theorem enA_one (r : En) : (enA r).all (·.oneCell') = true := allOne (l := enF r) rfl
theorem keys71 {hu : Nat} {c : Nat → Nat} {w : World} {g b : Nat} {vX : Value} {M : List Mm} {X : List Xm} (h : PlAt hu c w g b vX M X) (hR : ∀ p ∈ M.map mkr, (1 ≤ p.1.length ∧ p.1.length ≤ 16) ∧ recE p.2 = 0) (hn : M.length ≤ 100000)
    (id : Int) (vf vl vh : Value) (fs : List Int) (low high : List ValT) (hf : Rd w vf (iV fs)) (hlo : Vals w [vl] low) (hhi : Vals w [vh] high) (hm : GMx w) :
    CallP Tryz.prog 71 #[.pointer (some ⟨g, 0, none⟩), .agg #[.int .i64 id, vf], vl, vh] (fun r w' => OwnTx w w' r ((areaV (M.map mkr) id fs low high).map (·.2))) w := by
  have hok : ∀ p ∈ M.map mkr, ∀ x ∈ p.2, valOk x := fun p hp => by
    obtain ⟨m, hm, rfl⟩ := List.mem_map.1 hp
    exact vals_ok (h.ms m hm).rd
  refine ⟨S71.calls _ _ _ _ _ _ ?_⟩
  unfold S71
  refine bxB ?_
  intro g1 w1 hg1 hB1 hb1
  refine ldA aggIx hB1 (by exact szIx) ?_
  refine (entries58 (h.below hb1) hR hn id vf vl vh fs low high (hf.below hb1) (keeps_Vals _ _ _ _ hb1 hlo) (keeps_Vals _ _ _ _ hb1 hhi) (hm.below hb1)).mono ?_
  rintro r w2 ⟨L, hp, hs, hE, hb2⟩
  have hb12 := below_then hb1 hb2
  have hL := areaV_eq hok hp hs
  rw [← hL]
  have hlen : L.length ≤ 100000 := by
    rw [hp.length_eq]
    have := List.length_filterMap_le (entOf id fs low high) (M.map mkr)
    rw [List.length_map] at this
    omega
  obtain ⟨A, cc, hr, _⟩ := hE.1.slice
  rw [hr]
  refine ln undEn ?_
  refine LoopP.inv2 (fun rv iv w' => ∃ i : Nat, i ≤ L.length ∧ iv = .int .i64 i ∧ OwnTx w2 w' rv ((L.take i).map (·.2))) (fun _ iv _ => L.length - (intOf iv).toNat) ⟨0, by omega, rfl, OwnTx.nil (Below.refl _ _)⟩ ?_
  rintro rv _ w3 ⟨i, hi, rfl, ho⟩ J hJ
  dsimp only [List.headD_cons, List.tail_cons]
  refine bi_lss_c (fun h1 => ?_) (fun h1 => ?_)
  · have hi' : i < L.length := by omega
    obtain ⟨ge, ce, he, hcell⟩ := rowAt enF_len (hE.1.below ho.bel) i hi' (by decide)
    rw [hr] at he
    cases he
    (repeat with_reducible first|refine z_b ?_)
    refine ixG undEn szEn i hi' ?_
    refine ldR (us := enF L[i]) aggEn (fun j u hu => by rw [add0]; exact hcell j u hu) (by rw [szEn]; rfl) ?_
    refine cpB zEn (cells := enA L[i]) (by exact szEn) (by rfl) (enA_one _) ?_
    intro g2 w4 hg2 hB2 hb4
    have c1 : w4.cell? ⟨g2, 1, none⟩ = some (tS L[i].2) := hB2.cell 1
    (repeat with_reducible first|refine fd e1 (by decide) ?_|refine ld one9 c1 ?_)
    refine (ho.kept hb4).push (by simp; omega) L[i].2 ?_
    intro v5 w5 ho5
    (repeat with_reducible first|refine z_o (by omega) ?_)
    refine hJ _ _ _ ⟨i + 1, by omega, by simp, ?_⟩ (by simp [intOf]; omega)
    rw [List.take_succ_eq_append_getElem hi', List.map_append]
    exact ho5
  · have : i = L.length := by omega
    subst this
    rw [List.take_length] at ho
    (repeat with_reducible first|refine z_c ?_)
    exact ho.old hb12
end Go.Proofs.YtonblppkidpmlaaGreatDoor.E
namespace Go.Proofs.YtonblppkidpmlaaGreatDoor.E
open Go Go.Proofs Go.RowKit Go.Maps Go.Sort Go.Shelf
set_option linter.unusedSimpArgs false
set_option linter.unusedVariables false

/-- The map's words of the library's: whatever the values are. -/
theorem ownsT {w : World} {b : Nat} {l : List (Txt × Value)} (h : T.MapI w b l) : ∃ D0 : DataW Unit, w.ownsMap Tryz.prog 9 (fun _ => some (.nil, [])) b l.length D0 ∧ (strKeys D0).Perm (l.map (·.1)) ∧ Maps.size D0 = l.length := by
  have hl := h
  obtain ⟨es, c, h1, h2, hst, hsz, hwf⟩ := h
  have hel : es.size = l.length := by have := congrArg List.length h2; simpa using this
  have hrd : ∀ x ∈ es.toList, ∃ k : Txt, x.key = tS k ∧ WideElems.rd Tryz.prog 9 (fun _ => some ((.nil : DataW Unit), [])) x = some (.string k, .nil) := by
    intro x hx
    have hm : (x.key, x.val) ∈ es.toList.map (fun e => (e.key, e.val)) := List.mem_map.2 ⟨x, hx, rfl⟩
    rw [h2] at hm
    obtain ⟨p, hp, hpe⟩ := List.mem_map.1 hm
    have hk : x.key = tS p.1 := (congrArg Prod.fst hpe).symm
    refine ⟨p.1, hk, ?_⟩
    have hsz : (⟨p.1.toArray⟩ : ByteArray).size ≤ maxLen := by
      have := hwf p hp
      show p.1.toArray.size ≤ _
      simp only [maxLen, List.size_toArray]
      omega
    simp [WideElems.rd, hk, tS, Go.WideMaps.keyOf_string_mk und9 hsz]
  refine ⟨.map ((es.toList.map (WideElems.rg Tryz.prog 9 fun _ => some (.nil, []))).foldr DataW.insert []), ⟨es, c, h1, ⟨hsz, hst, fun x hx => by obtain ⟨k, _, hk⟩ := hrd x hx; exact ⟨_, hk⟩⟩, by omega, rfl⟩, ?_, ?_⟩
  · have hp := (WideShapes.sorted_perm (es.toList.map (WideElems.rg Tryz.prog 9 fun _ => some ((.nil : DataW Unit), [])))).map fun p => Go.strOf p.1
    refine hp.trans ?_
    have e1 : (es.toList.map (WideElems.rg Tryz.prog 9 fun _ => some ((.nil : DataW Unit), []))).map (fun p => Go.strOf p.1) = l.map (·.1) := by
      have : (es.toList.map fun x => x.key) = l.map fun p => tS p.1 := by
        have := congrArg (List.map Prod.fst) h2
        simpa [List.map_map, Function.comp_def] using this
      have e2 : (es.toList.map (WideElems.rg Tryz.prog 9 fun _ => some ((.nil : DataW Unit), []))).map (fun p => Go.strOf p.1) = (es.toList.map fun x => x.key).map (fun v => match v with | .string s => s.data.toList | _ => []) := by
        rw [List.map_map, List.map_map]
        refine List.map_congr_left fun x hx => ?_
        obtain ⟨k, hk, hr⟩ := hrd x hx
        simp only [Function.comp]
        rw [WideElems.rg_of hr, hk]
        simp [Go.strOf, tS]
      rw [e2, this, List.map_map]
      refine List.map_congr_left fun x hx => ?_
      simp [tS]
    rw [e1]
  · have : (es.toList.map (WideElems.rg Tryz.prog 9 fun _ => some ((.nil : DataW Unit), []))).length = l.length := by rw [List.length_map, Array.length_toList, hel]
    rw [← this]
    exact length_sorted _
theorem sortsA (m : Nat) : AnyZ.SortsIn Tryz.prog sortedA_ren Fence.wide m :=
  ⟨fun blk off cap ss W hH hblk hsz => callsIn_wide.2 (AnyM.slices_Sort_string sortA blk off cap ss W hH hblk hsz),
   fun p cap W => callsIn_wide.2 (AnyM.slices_Sort_string_none sortA p cap W)⟩
theorem keys49 (b : Nat) (w : World) : CallP Tryz.prog 49 #[.map (some b)] (fun r w' => r = .func (.func 74) #[] #[.pointer (some ⟨w.heap.size, 0, none⟩)] ∧ w' = w.alloc (.cells #[.map (some b)] 80)) w := by
  have h : CallsIn Fence.wide 5 Tryz.prog 49 #[.map (some b)] w fun e w' => e = .returned (.func (.func 74) #[] #[.pointer (some ⟨w.heap.size, 0, none⟩)]) ∧ w' = w.alloc (.cells #[.map (some b)] 80) := AnyZ.keys_in keysA Fence.wide 5 trivial rfl (some b) w
  exact ⟨(callsIn_wide.1 h).mono fun e w' ⟨h1, h2⟩ => ⟨_, h1, rfl, h2⟩⟩
theorem sorted48 (b g : Nat) (l : List (Txt × Value)) (w : World) (h : T.MapI w b l) (hg : w.cell? ⟨g, 0, none⟩ = some (.map (some b))) (hl : l.length ≤ 1000000) :
    CallP Tryz.prog 48 #[.func (.func 74) #[] #[.pointer (some ⟨g, 0, none⟩)]] (fun r w' => Own 9 w' r (((l.map (·.1)).mergeSort leB).map tS) ∧ Fresh w.heap.size r ∧ Below w.heap.size w w') w := by
  obtain ⟨D0, hown, hperm, hsize⟩ := ownsT h
  have hseq : SeqGives Fence.wide 2 Tryz.prog 74 #[.pointer (some ⟨g, 0, none⟩)] encStr (fun ss => ss.Perm (strKeys D0)) (Maps.size D0) w :=
    AnyZ.keys_gives (ρ := keysA_ren) { keysA with } Fence.wide _ trivial rfl (by omega) g b l.length D0 _ (World.block_lt_of_cell? _ _ hg) hg hown
  have cS := AnyZ.sorted_in sortedA Fence.wide 5 trivial trivial trivial trivial rfl (by omega) (sortsA _) (enters_of Tryz.func73 (by kernel_rfl) rfl) 74 #[.pointer (some ⟨g, 0, none⟩)] trivial (enters_of Tryz.func74 (by kernel_rfl) rfl) _ _ (by rw [hsize]; simp only [maxLen]; omega) (by rw [hsize]; omega) _ hseq
  change CallsIn _ _ Tryz.prog 48 _ _ _ at cS
  refine ⟨(callsIn_wide.1 cS).mono fun e w' ⟨v, ss, h1, hS, hrow, hnil, hb⟩ => ⟨v, h1, ?_, ?_, hb⟩⟩
  · have e1 : ss.mergeSort (fun x y => decide (x ≤ y)) = (l.map (·.1)).mergeSort leB := mergeSort_of_perm (hS.trans hperm)
    rw [e1] at hrow
    have hlen : (((l.map (·.1)).mergeSort leB).map tS).length = ss.length := by
      rw [List.length_map, ← e1, List.length_mergeSort]
    refine ⟨by simp, ?_⟩
    rw [hlen]
    rcases hrow.2 with h | ⟨gb, cap, cur, rfl, hbase, hgb, r1, r2, r3, r4⟩
    · exact .inl h
    · exact .inr ⟨gb, cap, cur, rfl, Nat.zero_le _, hgb, r1, r2, r3, r4⟩
  · intro k hk
    rcases hrow.2 with ⟨rfl, _⟩ | ⟨gb, cap, cur, rfl, hbase, _⟩
    · cases hk
    · have : gb = k := by simpa [Value.ownBlock] using hk
      omega
/-- The keys in order are the rows'. -/
theorem keys_sorted {L R : RowsT} (hp : L.Perm R) (hR : Rising R) : (L.map (·.1)).mergeSort leB = R.map (·.1) := by
  have h1 : (L.map (·.1)).mergeSort leB = (R.map (·.1)).mergeSort leB := mergeSort_of_perm (hp.map _)
  rw [h1]
  refine List.mergeSort_of_pairwise ?_
  refine List.pairwise_map.2 (hR.imp fun h => ?_)
  simp only [decide_eq_true_eq]
  exact List.le_of_lt h
end Go.Proofs.YtonblppkidpmlaaGreatDoor.E
namespace Go.Proofs.YtonblppkidpmlaaGreatDoor.E
open Go Go.RowKit
set_option linter.unusedSimpArgs false
set_option linter.unusedVariables false

def mmF (m : Mm) : List Value := [tS m.1, m.2.1]
theorem mmF_len (m : Mm) : (mmF m).length = 2 := rfl
theorem undRw : Tryz.prog.underlying 35 = some (.slice 40) := by kernel_rfl
theorem szRw : (Tryz.prog.info? 40).map (·.size) = some 2 := by kernel_rfl
theorem infRw : (Tryz.prog.info? 40).map (fun i => (i.zero, i.size, i.bytes)) = some (some (.agg #[.string ⟨#[]⟩, .slice none 0 0]), 2, 40) := by kernel_rfl
theorem aggRw : aggB Tryz.prog 40 = true := by kernel_rfl
theorem zRw : (Tryz.prog.info? 40).bind (·.zero) = some (.agg #[.string ⟨#[]⟩, .slice none 0 0]) := by kernel_rfl
theorem w0 : fofs Tryz.prog 40 0 = some (0, 1) := by kernel_rfl
theorem w1 : fofs Tryz.prog 40 1 = some (1, 1) := by kernel_rfl
/-- Rows of a reply, of the colour hu. -/
structure RowsC (hu : Nat) (c : Nat → Nat) (w : World) (v : Value) (M : List Mm) : Prop where
  row : OwnR 2 40 w v M.length (M.flatMap mmF)
  cv : InC c hu v
  ms : ∀ m ∈ M, VS hu c w m.2.1 m.2.2
section
variable {hu : Nat} {c c' : Nat → Nat} {w w' : World} {v : Value} {M : List Mm}
theorem OwnR.turns' {s : Nat} {e : TypeId} {n : Nat} {cs : List Value} {F : Nat → Prop} (h : OwnR s e w v n cs) (hT : Turns F w w') (hF : ∀ k, v.ownBlock = some k → ¬ F k) : OwnR s e w' v n cs := by
  refine ⟨h.1, ?_⟩
  rcases h.2 with h | ⟨g, cc, cur, rfl, hb, h1⟩
  · exact .inl h
  · exact .inr ⟨g, cc, cur, rfl, hb.turns hT (hF g rfl), h1⟩
theorem OwnR.lt' {s : Nat} {e : TypeId} {n : Nat} {cs : List Value} (h : OwnR s e w v n cs) {k : Nat} (hk : v.ownBlock = some k) : k < w.heap.size := by
  rcases h.2 with ⟨rfl, _⟩ | ⟨g, cc, cur, rfl, hb, _⟩
  · cases hk
  · have : g = k := by simpa [Value.ownBlock] using hk
    rw [← this]; exact hb.lt
theorem RowsC.turns {G : Nat → Prop} (h : RowsC hu c w v M) (hT : Turns G w w') (hG : ∀ k, G k → c k ≠ hu) : RowsC hu c w' v M :=
  ⟨h.row.turns' hT fun k hk e => hG k e (h.cv k hk), h.cv, fun m hm => (h.ms m hm).turns hT hG⟩
theorem RowsC.below (h : RowsC hu c w v M) (hb : Below w.heap.size w w') : RowsC hu c w' v M := h.turns (G := fun _ => False) (Turns.of_below hb) fun _ h => h.elim
theorem RowsC.re (h : RowsC hu c w v M) (hc : ∀ k, k < w.heap.size → c' k = c k) : RowsC hu c' w v M :=
  ⟨h.row, h.cv.re (fun b hb => h.row.lt' hb) hc, fun m hm => (h.ms m hm).re hc⟩
theorem RowsC.nil : RowsC hu c w (.slice none 0 0) [] := ⟨⟨by simp, .inl ⟨rfl, rfl⟩⟩, InC.nil _ _ _ _, by simp⟩
end
/-- Rows of the call's own, each record a row of the call's own. -/
structure OwnRw (w0 w : World) (v : Value) (M : List Mm) : Prop where
  row : OwnL mmF 2 40 w0 w v M
  ms : ∀ m ∈ M, OwnV w0 w m.2.1 m.2.2 ∧ ∀ x ∈ m.2.2, valOk x
section
variable {w0 w w1 : World} {v : Value} {M : List Mm}
theorem OwnRw.nil (hb : Below w0.heap.size w0 w) : OwnRw w0 w (.slice none 0 0) [] := ⟨OwnL.nil hb, by simp⟩
theorem OwnRw.kept (h : OwnRw w0 w v M) (hb : Below w.heap.size w w1) : OwnRw w0 w1 v M := ⟨h.row.kept hb, fun m hm => ⟨(h.ms m hm).1.kept hb, (h.ms m hm).2⟩⟩
theorem OwnRw.old {w0' : World} (h : OwnRw w0 w v M) (hb : Below w0'.heap.size w0' w0) : OwnRw w0' w v M := ⟨h.row.old hb, fun m hm => ⟨(h.ms m hm).1.old hb, (h.ms m hm).2⟩⟩
theorem OwnRw.rc (h : OwnRw w0 w v M) (c : Nat → Nat) (hu : Nat) : RowsC hu (col c w0.heap.size hu) w v M :=
  ⟨OwnR.of_own h.row.own, InC.fresh h.row.fresh, fun m hm => (h.ms m hm).1.vs (h.ms m hm).2 c hu⟩
theorem ne_type {α β : Type} {f : α → List Value} {f' : β → List Value} {s s' : Nat} {e e' : TypeId} {w0 w0' w : World} {v v' : Value} {l : List α} {l' : List β} (h : OwnL f s e w0 w v l) (h' : OwnL f' s' e' w0' w v' l') (hne : e ≠ e') : ∀ j, v'.ownBlock = some j → ¬ v.ownBlock = some j := by
  intro j hj hk
  rcases h.own.2 with ⟨rfl, _⟩ | ⟨g, cap, cur, rfl, _, hg, _⟩
  · cases hk
  · rcases h'.own.2 with ⟨rfl, _⟩ | ⟨g', cap', cur', rfl, _, hg', _⟩
    · cases hj
    · have e1 : g = j := by simpa [Value.ownBlock] using hk
      have e2 : g' = j := by simpa [Value.ownBlock] using hj
      rw [e1] at hg
      rw [e2, hg] at hg'
      simp only [Option.some.injEq, Obj.cells.injEq] at hg'
      exact hne hg'.2.1
/-- A row more. -/
theorem OwnRw.push {K : Value → World → Prop} (h : OwnRw w0 w v M) (hl : M.length ≤ 1000000) (k : Txt) (vr : Value) (r : List ValT) (hr : OwnV w0 w vr r) (hok : ∀ x ∈ r, valOk x) (kk : ∀ v' w', OwnRw w0 w' v' (M ++ [(k, vr, r)]) → K v' w') :
    LiftP Tryz.prog (Instr.build 40 #[(0, tS k), (1, vr)]) (fun x w => LiftP Tryz.prog (Instr.buildSlice 35 1 #[(0, x)]) (fun u w => NextP Tryz.prog (builtin .append #[35, 35] 35 #[false, false] #[v, u]) K w) w) w := by
  obtain ⟨A, c, rfl, _⟩ := hr.slice
  refine bd (cells := (mmF (k, .slice A r.length c, r)).toArray) (by kernel_rfl) ?_
  have h1 : ∀ u ∈ mmF (k, Value.slice A r.length c, r), u.oneCell' = true := by
    intro u hu
    simp only [mmF, List.mem_cons, List.not_mem_nil, or_false] at hu
    rcases hu with rfl | rfl <;> rfl
  refine apOne (us := mmF (k, .slice A r.length c, r)) undRw infRw (by rfl) (by decide) h.row.own rfl h1 (by omega) (by omega) (by kernel_rfl) ?_
  intro v2 w2 ho2 hbl2 hT2
  have e : (M ++ [(k, Value.slice A r.length c, r)]).flatMap mmF = M.flatMap mmF ++ mmF (k, .slice A r.length c, r) := by simp
  have hb2 : Below w0.heap.size w0 w2 := h.row.bel.trans (hT2.fresh h.row.fresh h.row.bel.size)
  have keep : ∀ {vr' : Value} {r' : List ValT}, OwnV w0 w vr' r' → OwnV w0 w2 vr' r' := fun hv => ⟨ownsRow_turns hv.own hT2 (ne_type h.row hv (by decide)), hv.fresh, hb2⟩
  refine kk v2 w2 ⟨⟨by rw [e, List.length_append]; exact ho2, h.row.fresh.one h.row.bel.size hbl2, hb2⟩, fun m hm => ?_⟩
  rcases List.mem_append.1 hm with hm | hm
  · exact ⟨keep (h.ms m hm).1, (h.ms m hm).2⟩
  · simp only [List.mem_cons, List.not_mem_nil, or_false] at hm
    subst hm
    exact ⟨keep hr, hok⟩
end
theorem rows_at {L R : RowsT} (hp : L.Perm R) (hR : Rising R) (i : Nat) (hi : i < R.length) : T.getK R[i].1 L = some R[i].2 := by
  have hn : (L.map (·.1)).Nodup := (hp.map _).nodup_iff.2 (rising_nodup hR)
  rw [perm_get hp hn]
  exact T.getK_of_mem (rising_nodup hR) (List.getElem_mem hi)
theorem Rows20 {hu : Nat} {c : Nat → Nat} {w : World} {g b : Nat} {vX : Value} {M : List Mm} {X : List Xm} (h : PlAt hu c w g b vX M X) {R : RowsT} (hp : (M.map mkr).Perm R) (hR : Rising R) (hn : R.length ≤ 100000) (hrec : ∀ p ∈ R, p.2.length ≤ 1000) :
    CallP Tryz.prog 20 #[.pointer (some ⟨g, 0, none⟩)] (fun r w' => ∃ M', M'.map mkr = R ∧ OwnRw w w' r M') w := by
  refine ⟨S20.calls _ _ _ ?_⟩
  unfold S20
  have hML : M.length = R.length := by rw [← hp.length_eq, List.length_map]
  have q0 : w.cell? ⟨g, 0, none⟩ = some (.map (some b)) := h.blk.cell 0
  (repeat with_reducible first|refine fd p0 (by decide) ?_|refine ld oneMp q0 ?_|refine z_a ?_)
  refine (keys49 b w).mono ?_
  rintro _ _ ⟨rfl, rfl⟩
  have hb1 := (Below.refl w.heap.size w).alloc (Nat.le_refl _) (.cells #[.map (some b)] 80)
  have hB : Blk (w.alloc (.cells #[.map (some b)] 80)) w.heap.size 80 #[.map (some b)] := Blk.new w 80 _
  generalize w.alloc (.cells #[.map (some b)] 80) = w1 at *
  refine (sorted48 b w.heap.size _ w1 (h.map.below hb1) (hB.cell 0) (by rw [List.length_map]; omega)).mono ?_
  rintro r w2 ⟨ho, hf, hb2⟩
  rw [keys_mkv, ← keys_mkr, keys_sorted hp hR] at ho
  have hb12 := below_then hb1 hb2
  obtain ⟨A, cc, rfl⟩ := ho.slice
  have hlen : ((R.map (·.1)).map tS).length = R.length := by simp
  rw [hlen] at ho ⊢
  refine ln undTx ?_
  refine LoopP.inv2 (fun rv iv w' => ∃ (i : Nat) (M' : List Mm), i ≤ R.length ∧ iv = .int .i64 i ∧ M'.map mkr = R.take i ∧ OwnRw w2 w' rv M') (fun _ iv _ => R.length - (intOf iv).toNat) ⟨0, [], by omega, rfl, rfl, OwnRw.nil (Below.refl _ _)⟩ ?_
  rintro rv _ w3 ⟨i, M', hi, rfl, hM', ho3⟩ J hJ
  dsimp only [List.headD_cons, List.tail_cons]
  have hM'l : M'.length = i := by
    have := congrArg List.length hM'
    rw [List.length_map, List.length_take] at this
    omega
  refine bi_lss_c (fun h1 => ?_) (fun h1 => ?_)
  · have hi' : i < R.length := by omega
    obtain ⟨a, rfl, hca⟩ := Rd.at (ho.rd.below ho3.row.bel) i (by rw [hlen]; exact hi')
    have e9 : ((R.map (·.1)).map tS)[i]'(by rw [hlen]; exact hi') = tS R[i].1 := by simp
    rw [e9] at hca
    have hb03 := below_then hb12 ho3.row.bel
    have h3 := h.below hb03
    have q3 : w3.cell? ⟨g, 0, none⟩ = some (.map (some b)) := h3.blk.cell 0
    have hg := rows_at hp hR i hi'
    rw [getK_mkr] at hg
    obtain ⟨⟨vr, rr⟩, hgM, he⟩ := Option.map_eq_some_iff.1 hg
    simp only at he
    subst he
    have hVS : VS 999 c w3 vr R[i].2 := h3.ms _ (getT_mem hgM)
    (repeat with_reducible first|refine z_b ?_)
    refine ix1 undTx sz9 hi' ?_
    refine ld one9 hca ?_
    (repeat with_reducible first|refine fd p0 (by decide) ?_|refine ld oneMp q3 ?_|refine z_a ?_)
    refine T.lkq undMp und9 zRec h3.map ?_
    have e10 : (T.getK R[i].1 (M.map mkv)).getD (.slice none 0 0) = vr := by rw [getK_mkv, hgM]; rfl
    rw [e10]
    refine (Clone45 vr _ w3 hVS.rd (by have := hrec _ (List.getElem_mem hi'); omega)).mono ?_
    intro vc w4 ho4
    refine (ho3.kept ho4.bel).push (by omega) R[i].1 vc R[i].2 (ho4.old ho3.row.bel) (vals_ok hVS.rd) ?_
    intro v5 w5 ho5
    (repeat with_reducible first|refine z_o (by omega) ?_)
    refine hJ _ _ _ ⟨i + 1, _, by omega, by simp, ?_, ho5⟩ (by simp [intOf]; omega)
    rw [List.map_append, hM', List.take_succ_eq_append_getElem hi']
    rfl
  · have : i = R.length := by omega
    subst this
    rw [List.take_length] at hM'
    (repeat with_reducible first|refine z_c ?_)
    exact ⟨M', hM', ho3.old hb12⟩
end Go.Proofs.YtonblppkidpmlaaGreatDoor.E
