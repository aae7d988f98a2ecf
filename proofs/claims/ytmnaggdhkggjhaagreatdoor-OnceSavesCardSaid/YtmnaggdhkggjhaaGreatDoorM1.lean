import Derived.Test.YtmnaggdhkggjhaaGreatDoorM0
import Derived.KernelRfl
namespace Go.Proofs.YtmnaggdhkggjhaaGreatDoor.E
open Go

section
variable {P : Program} {n : Nat} {ops : Array Oper} {Q : Exit → Act → World → Prop}

theorem yielded_eq (ops : Array Oper) (tmps : Array Value) (j : Nat) (d : Nat) (hd : (ops[j]?).bind (·.dst) = some d) (b : Bool) :
    yielded ops tmps j = some b ↔ tmps.getD d undef = .bool b := by
  unfold yielded
  rw [hd]
  simp only [Option.bind_some, Array.getD_eq_getD_getElem?]
  cases h : tmps[d]? with
  | none => simp [undef]
  | some v => cases v <;> simp

theorem wanted_guard {o : Oper} {a : Act} {F : Fr} (hR : Rel n a F) {j : Nat} {b : Bool} (hg : o.guard = some (j, b)) {d : Nat} (hd : (ops[j]?).bind (·.dst) = some d) {v : Value} (hv : getO F d = some v) :
    Region.wanted o (yielded ops a.tmps) = true ↔ v = .bool b := by
  have h1 := hR.slot d v hv
  simp only [Region.wanted, hg, beq_iff_eq]
  rw [yielded_eq ops a.tmps j d hd b, h1]

/-- A guarded step: it is done, or passed over. -/
theorem guarded_cases {o : Oper} {a : Act} {F : Fr} {w : World} {X : (Value → World → Prop) → World → Prop} {Kv : Value → World → Prop} (hR : Rel n a F)
    (h : guarded ops.toList o.guard F X Kv w) :
    (Region.wanted o (yielded ops a.tmps) = true ∧ X Kv w) ∨ (Region.wanted o (yielded ops a.tmps) = false ∧ Kv undef w) := by
  unfold guarded at h
  cases hg : o.guard with
  | none =>
    rw [hg] at h
    exact .inl ⟨by simp [Region.wanted, hg], h⟩
  | some jb =>
    obtain ⟨j, b⟩ := jb
    rw [hg] at h
    simp only [guardOf] at h
    cases hd : (ops.toList[j]?).bind (·.dst) with
    | none => rw [hd] at h; exact h.elim
    | some d =>
      rw [hd] at h
      simp only at h
      cases hv : getO F d with
      | none => rw [hv] at h; exact h.elim
      | some v =>
        rw [hv] at h
        have h1 := h.yes
        have h2 := h.no
        have hd' : (ops[j]?).bind (·.dst) = some d := by rw [← hd]; simp
        have hw := wanted_guard (o := o) (ops := ops) hR hg hd' hv
        by_cases hb : v = .bool b
        · exact .inl ⟨hw.2 hb, h1 hb⟩
        · refine .inr ⟨?_, h2 hb⟩
          rw [← Bool.not_eq_true]
          exact fun hc => hb (hw.1 hc)

theorem guardedA_cases {o : Oper} {a : Act} {F : Fr} {w : World} {S : World → Prop} {X : (Value → World → Prop) → World → Prop} {Kv : (World → Prop) → Value → World → Prop} (hR : Rel n a F)
    (h : guardedA ops.toList o.guard F S X Kv w) :
    (Region.wanted o (yielded ops a.tmps) = true ∧ ActP S X Kv w) ∨ (Region.wanted o (yielded ops a.tmps) = false ∧ Kv S undef w) := by
  unfold guardedA at h
  cases hg : o.guard with
  | none =>
    rw [hg] at h
    exact .inl ⟨by simp [Region.wanted, hg], h⟩
  | some jb =>
    obtain ⟨j, b⟩ := jb
    rw [hg] at h
    simp only [guardOf] at h
    cases hd : (ops.toList[j]?).bind (·.dst) with
    | none => rw [hd] at h; exact h.elim
    | some d =>
      rw [hd] at h
      simp only at h
      cases hv : getO F d with
      | none => rw [hv] at h; exact h.elim
      | some v =>
        rw [hv] at h
        have h1 := h.yes
        have h2 := h.no
        have hd' : (ops[j]?).bind (·.dst) = some d := by rw [← hd]; simp
        have hw := wanted_guard (o := o) (ops := ops) hR hg hd' hv
        by_cases hb : v = .bool b
        · exact .inl ⟨hw.2 hb, h1 hb⟩
        · refine .inr ⟨?_, h2 hb⟩
          rw [← Bool.not_eq_true]
          exact fun hc => hb (hw.1 hc)
/-- A narrower condition serves as well. -/
theorem wpAnyH_narrow {P : Program} {md : Region.Mode} {ops : Array Oper} {Q : Exit → Act → World → Prop} {S S' : World → Prop} (hs : ∀ w, S' w → S w) :
    ∀ (fuel : Nat) (listed : Array Bool) (a : Act) (w : World), wpAnyH P md ops Q S' fuel listed a w → wpAnyH P md ops Q S fuel listed a w
  | 0, _, _, _, h => h
  | fuel + 1, _, _, _, h => ⟨h.1, fun i hi => wpOp_mono (fun a' w' h' => ⟨hs _ h'.1, wpAnyH_narrow hs fuel _ a' w' h'.2⟩) (h.2 i hi)⟩

theorem putK_eq (dst : Option Tmp) (v : Value) (F : Fr) (k : Fr → Prop) : putK dst v F k = k (put F dst v) := by cases dst <;> rfl

theorem trOps_sound {ds : List Nat} {a0 : Act} {K : Fr → World → Prop} (hQ : ∀ a F w, Rel n a F → Keep ds a0 a → K F w → Q .normal a w) :
    ∀ (l : List Oper) (F : Fr) (a : Act) (w : World), (∀ o ∈ l, ∀ d, o.dst = some d → d ∈ ds) → l.all (opB P n) = true → Rel n a F → Keep ds a0 a →
      trOps P n ops.toList l K F w → wpList P ops Q l a w
  | [], F, a, w, _, _, hR, hk, h => hQ a F w hR hk h
  | o :: r, F, a, w, hd, hb, hR, hk, h => by
    simp only [List.all_cons, Bool.and_eq_true] at hb
    simp only [trOps] at h
    cases hkn : knownB F o.op with
    | false => rw [hkn] at h; exact h.elim
    | true =>
      rw [hkn] at h
      simp only [cond_true] at h
      have hfit : fitsB n o = true := (Bool.and_eq_true _ _ ▸ hb.1 : fitsB n o = true ∧ _).1
      have next : ∀ v w', (putK o.dst v F fun F => trOps P n ops.toList r K F w') → wpList P ops Q r (a.put o.dst v) w' := fun v w' h' => by
        rw [putK_eq] at h'
        exact trOps_sound hQ r _ _ _ (fun o' ho => hd o' (List.mem_cons_of_mem _ ho)) hb.2 (hR.put hfit v) (Keep.put hR hk hfit (hd o List.mem_cons_self) v) h'
      unfold wpList
      rcases guarded_cases (ops := ops) hR h with ⟨hw, h'⟩ | ⟨hw, h'⟩
      · rw [if_pos hw]
        exact .inl (trAct_sound hkn hR hb.1 h' next)
      · rw [hw]
        simp only [Bool.false_eq_true, if_false]
        exact next _ _ h'

/-- What a reader says. -/
theorem trRead_sound {S : World → Prop} {o : Oper} {a : Act} {F : Fr} {Kv : Value → World → Prop} {w : World} (hk : knownB F o.op = true) (hR : Rel n a F) (h : trRead P S o.op o.type F Kv w) :
    ∃ v, (∀ w', S w' → (execOp a.eval o).run P w' = .ok (.value v) w') ∧ Kv v w := by
  have gen : ∀ op, o.op = op → (match semOf op o.type (ev F) with
      | some m => YieldP P S m Kv w
      | none => False) → ∃ v, (∀ w', S w' → (execOp a.eval o).run P w' = .ok (.value v) w') ∧ Kv v w := by
    intro op ho h
    obtain ⟨dst, op', type, pos, after, guard⟩ := o
    simp only at ho
    subst ho
    split at h
    · rename_i m hm
      obtain ⟨v, hv, hK⟩ := h.out
      refine ⟨v, fun w' hS => ?_, hK⟩
      rw [semOf_exec hR hk hm]
      simp [Sem.run_bind, hv w' hS]
    · exact h.elim
  unfold trRead at h
  split at h
  · rename_i x hx
    obtain ⟨dst, op', type, pos, after, guard⟩ := o
    simp only at hx; subst hx
    obtain ⟨l, hl, he⟩ := hR.evalxs hk
    simp only [opnds, Option.some.injEq] at hl; subst hl
    split at h
    · rename_i v hv
      refine ⟨_, fun w' _ => ?_, h⟩
      show (pure (Next.value (a.eval x)) : Sem Next).run P w' = _
      rw [he x (by simp), ev, hv]; rfl
    · exact h.elim
  · rename_i x hx
    obtain ⟨dst, op', type, pos, after, guard⟩ := o
    simp only at hx; subst hx
    obtain ⟨l, hl, he⟩ := hR.evalxs hk
    simp only [opnds, Option.some.injEq] at hl; subst hl
    split at h
    · rename_i v hv
      refine ⟨_, fun w' _ => ?_, h⟩
      show (pure (Next.value (a.eval x)) : Sem Next).run P w' = _
      rw [he x (by simp), ev, hv]; rfl
    · exact h.elim
  · rename_i c x y hx
    obtain ⟨dst, op', type, pos, after, guard⟩ := o
    simp only at hx; subst hx
    obtain ⟨l, hl, he⟩ := hR.evalxs hk
    simp only [opnds, Option.some.injEq] at hl; subst hl
    obtain ⟨b, hb, h⟩ := h.out
    refine ⟨_, fun w' _ => ?_, h⟩
    show (do pure (Next.value (if ← asBool (a.eval c) then a.eval x else a.eval y)) : Sem Next).run P w' = _
    rw [he c (by simp), he x (by simp), he y (by simp), hb]
    cases b <;> simp [asBool, Sem.run_bind]
  · rename_i x hx
    obtain ⟨dst, op', type, pos, after, guard⟩ := o
    simp only at hx; subst hx
    obtain ⟨v, hv, h⟩ := h.out
    exact ⟨v, fun w' hS => by rw [nilChk_exec hR hk]; exact hv w' hS, h⟩
  · rename_i b args ats hx
    obtain ⟨dst, op', type, pos, after, guard⟩ := o
    simp only at hx; subst hx
    obtain ⟨v, hv, h⟩ := h.out
    exact ⟨v, fun w' hS => by rw [builtin_exec hR hk]; exact hv w' hS, h⟩
  · exact gen _ rfl h

theorem trDraw_sound {ds : List Nat} {a0 : Act} {K : Fr → World → Prop} (hQ : ∀ a F w, Rel n a F → Keep ds a0 a → K F w → Q .normal a w) (hP : ∀ c a w, ¬ Q (.panic c) a w)
    (hd : ∀ (i : Nat) (o : Oper), ops[i]? = some o → ∀ d, o.dst = some d → d ∈ ds) (hb : ∀ (i : Nat) (o : Oper), ops[i]? = some o → opB P n o = true) (hsel : Region.noSelect ops = true) :
    ∀ (l : List (Bool × Nat)) (S : World → Prop) (listed : Array Bool) (fuel : Nat) (F : Fr) (a : Act) (w : World), drawB ops l listed = true → l.length ≤ fuel → S w → Rel n a F → Keep ds a0 a →
      trDraw P n ops.toList l S K F w → wpAnyH P .any ops Q S fuel listed a w
  | [], S, listed, fuel, F, a, w, hB, _, _, hR, hk, h => wpAnyH_done (by simpa [drawB] using hB) (hQ a F w hR hk h) fuel
  | (rd, i) :: r, S, listed, 0, F, a, w, _, hl, _, _, _, _ => by simp at hl
  | (rd, i) :: r, S, listed, fuel + 1, F, a, w, hB, hl, hS, hR, hk, h => by
    simp only [trDraw] at h
    have hl' : r.length ≤ fuel := by simpa using hl
    cases ho : ops.toList[i]? with
    | none => rw [ho] at h; exact h.elim
    | some o =>
      rw [ho] at h
      have ho' : ops[i]? = some o := by rw [← ho]; simp
      simp only at h
      cases hkn : knownB F o.op with
      | false => rw [hkn] at h; exact h.elim
      | true =>
        rw [hkn] at h
        simp only [cond_true] at h
        have hop := hb i o ho'
        have hfit : fitsB n o = true := (Bool.and_eq_true _ _ ▸ hop : fitsB n o = true ∧ _).1
        simp only [drawB, Bool.and_eq_true] at hB
        obtain ⟨hB1, hB2⟩ := hB
        have next : ∀ (S' : World → Prop) v w', S' w' → (putK o.dst v F fun F => trDraw P n ops.toList r S' K F w') → wpAnyH P .any ops Q S' fuel (listed.setIfInBounds i true) (a.put o.dst v) w' := fun S' v w' hS' h' => by
          rw [putK_eq] at h'
          exact trDraw_sound hQ hP hd hb hsel r S' _ fuel _ _ _ hB2 hl' hS' (hR.put hfit v) (Keep.put hR hk hfit (hd i o ho') v) h'
        cases rd with
        | true =>
          simp only [cond_true, Bool.and_eq_true] at h hB1
          rcases guarded_cases (ops := ops) hR h with ⟨hw, h'⟩ | ⟨hw, h'⟩
          · obtain ⟨v, hv, hK⟩ := trRead_sound hkn hR h'
            exact wpAnyH_take ho' hsel hB1.1 hB1.2 (fun c a w hq => (hP _ _ _ hq).elim) (.inl ⟨hw, hv⟩) hS (next S v w hS hK)
          · exact wpAnyH_take ho' hsel hB1.1 hB1.2 (fun c a w hq => (hP _ _ _ hq).elim) (.inr ⟨hw, rfl⟩) hS (next S _ w hS h')
        | false =>
          simp only [cond_false, decide_eq_true_eq] at h hB1
          refine wpAnyH_all hB1 (by simp) fun j hj => ?_
          obtain rfl : j = i := by simpa using hj
          unfold wpOp
          simp only [ho']
          rcases guardedA_cases (ops := ops) hR h with ⟨hw, h'⟩ | ⟨hw, h'⟩
          · rw [if_pos hw]
            exact .inl (trAct_sound hkn hR hop h'.out fun v w' ⟨S', hS', hsub, hh⟩ => ⟨hsub _ hS', wpAnyH_narrow hsub _ _ _ _ (next S' v w' hS' hh)⟩)
          · rw [hw]
            simp only [Bool.false_eq_true, if_false]
            exact ⟨hS, next S _ w hS h'⟩
end

section
variable {P : Program} {ops : Array Oper} {Q : Exit → Act → World → Prop}
def Closed (ops : Array Oper) (listed : Array Bool) : Prop :=
  ∀ (k : Nat) (o : Oper), ops[k]? = some o → listed.getD k false = true → ∀ e ∈ o.after, Region.binds .any e = true → listed.getD e.on false = true
theorem Closed.start (ops : Array Oper) (n : Nat) : Closed ops (Array.replicate n false) := fun k o _ h => by
  rcases Nat.lt_or_ge k n with hk | hk
  · simp [hk] at h
  · simp [Array.getElem?_eq_none, hk] at h
theorem Closed.set {listed : Array Bool} (h : Closed ops listed) {j : Nat} (hj : j ∈ Region.ready .any ops listed) : Closed ops (listed.setIfInBounds j true) := fun k o ho hk e he hb => by
  by_cases hkj : j = k
  · subst hkj
    obtain ⟨_, o', ho', hall⟩ := mem_ready.1 hj
    rw [ho] at ho'
    cases ho'
    exact getD_set_true (hall e he hb)
  · rw [getD_set_ne false hkj] at hk
    exact getD_set_true (h k o ho hk e he hb)
theorem any_beq_mem {l : List Nat} {k : Nat} (h : l.any (Nat.beq k) = true) : k ∈ l := by
  obtain ⟨x, hx, hb⟩ := List.any_eq_true.1 h
  rw [Nat.eq_of_beq_eq_true hb]; exact hx
theorem direct_listed {listed : Array Bool} (h : Closed ops listed) {j : Nat} (hj : listed.getD j false = true) : ∀ k ∈ directB ops j, listed.getD k false = true := fun k hk => by
  unfold directB at hk
  cases ho : ops[j]? with
  | none => rw [ho] at hk; cases hk
  | some o =>
    rw [ho] at hk
    obtain ⟨e, he, rfl⟩ := List.mem_map.1 hk
    obtain ⟨he1, he2⟩ := List.mem_filter.1 he
    exact h j o ho hj e (Array.mem_toList_iff.1 he1) he2
theorem close_listed {listed : Array Bool} (h : Closed ops listed) : ∀ (n : Nat) (l : List Nat), (∀ k ∈ l, listed.getD k false = true) → ∀ k ∈ closeB ops n l, listed.getD k false = true
  | 0, _, hl, k, hk => hl k hk
  | n + 1, l, hl, k, hk => close_listed h n (stepB ops l) (fun k hk => by
      obtain ⟨_, hk⟩ := List.mem_filter.1 hk
      rcases Bool.or_eq_true _ _ ▸ hk with hk | hk
      · exact hl k (any_beq_mem hk)
      · obtain ⟨j, hj, hk⟩ := List.any_eq_true.1 hk
        exact direct_listed h (hl j hj) k (any_beq_mem hk)) k hk
theorem last_waits {s : Nat} (hc : coverB ops s = true) {i : Nat} {oi : Oper} (hi : ops[i]? = some oi) (his : i ≠ s) (listed : Array Bool) (h : Closed ops listed) (hun : listed.getD i true = false) : s ∉ Region.ready .any ops listed := fun hs => by
  have hlt : i < ops.size := (Array.getElem?_eq_some_iff.1 hi).1
  have h1 := List.all_eq_true.1 hc i (List.mem_range.2 hlt)
  rcases Bool.or_eq_true _ _ ▸ h1 with h1 | h1
  · exact his (Nat.eq_of_beq_eq_true h1)
  · have h2 := close_listed h ops.size (directB ops s) (fun k hk => by
      unfold directB at hk
      obtain ⟨_, o, ho, hall⟩ := mem_ready.1 hs
      rw [ho] at hk
      obtain ⟨e, he, rfl⟩ := List.mem_map.1 hk
      obtain ⟨he1, he2⟩ := List.mem_filter.1 he
      exact hall e (Array.mem_toList_iff.1 he1) he2) i (any_beq_mem h1)
    rcases Nat.lt_or_ge i listed.size with hk | hk
    · simp [hk] at h2 hun
      rw [hun] at h2; cases h2
    · simp [Array.getElem?_eq_none, hk] at h2

/-- Whatever order is picked; S holds behind each operation but s. -/
def wpL (P : Program) (ops : Array Oper) (Q : Exit → Act → World → Prop) (s : Nat) (S : World → Prop) : Nat → Array Bool → Act → World → Prop
  | 0, listed, a, w => Region.ready .any ops listed = [] ∧ Q .normal a w
  | n + 1, listed, a, w => (Region.ready .any ops listed = [] → Q .normal a w) ∧
      ∀ i ∈ Region.ready .any ops listed, wpOp P ops Q i (fun a' w' => (i ≠ s → S w') ∧ wpL P ops Q s S n (listed.setIfInBounds i true) a' w') a w
theorem wpAny_of_wpL {s : Nat} {S : World → Prop} : ∀ (n : Nat) (listed : Array Bool) (a : Act) (w : World), wpL P ops Q s S n listed a w → wpAny P .any ops Q n listed a w
  | 0, _, _, _, h => h
  | n + 1, _, _, _, h => ⟨h.1, fun i hi => wpOp_mono (fun a' w' h' => wpAny_of_wpL n _ a' w' h'.2) (h.2 i hi)⟩
theorem wpL_narrow {s : Nat} {S S' : World → Prop} (hs : ∀ w, S' w → S w) : ∀ (n : Nat) (listed : Array Bool) (a : Act) (w : World), wpL P ops Q s S' n listed a w → wpL P ops Q s S n listed a w
  | 0, _, _, _, h => h
  | n + 1, _, _, _, h => ⟨h.1, fun i hi => wpOp_mono (fun a' w' h' => ⟨fun hne => hs _ (h'.1 hne), wpL_narrow hs n _ a' w' h'.2⟩) (h.2 i hi)⟩
/-- A reader that is ready may be taken first: s cannot come up before it. -/
theorem wpL_read {s : Nat} {S : World → Prop} (hcov : coverB ops s = true) {i : Nat} {oi : Oper} {v : Value} (hi : ops[i]? = some oi) (his : i ≠ s) (hsel : ∀ (j : Nat) (o : Oper) cs b, ops[j]? = some o → o.op ≠ .select cs b)
    (hQ : ∀ c a w, Q (.panic c) (a.put oi.dst v) w → Q (.panic c) a w) (n : Nat) : ∀ (listed : Array Bool) (a : Act) (w : World), Closed ops listed →
      (∀ j oj, ops[j]? = some oj → j ≠ i → listed.getD j true = false → (∀ e ∈ oj.after, Region.binds .any e = true → e.on ≠ i) → oi.apart ops oj = true) →
      i ∈ Region.ready .any ops listed → YieldsIf P ops S oi v a → S w → wpL P ops Q s S n (listed.setIfInBounds i true) (a.put oi.dst v) w → wpL P ops Q s S (n + 1) listed a w := by
  induction n with
  | zero =>
    intro listed a w _ _ hr hy hS H
    refine ⟨fun h => absurd hr (by rw [h]; simp), fun j hj => ?_⟩
    rcases Nat.decEq j i with hji | hji
    · have := ready_mono hj hji
      rw [H.1] at this
      cases this
    · subst hji
      exact hy.wpOp hi hS ⟨fun _ => hS, H⟩
  | succ n ih =>
    intro listed a w hcl hfree hr hy hS H
    refine ⟨fun h => absurd hr (by rw [h]; simp), fun j hj => ?_⟩
    rcases Nat.decEq j i with hji | hji
    · have hun := (mem_ready.1 hr).1
      have hjs : j ≠ s := fun e => last_waits hcov hi his listed hcl hun (e ▸ hj)
      obtain ⟨hjun, oj, hoj, hall⟩ := mem_ready.1 hj
      have hno : ∀ e ∈ oj.after, Region.binds .any e = true → e.on ≠ i := fun e he hb heq => by
        have h1 := hall e he hb
        rw [heq] at h1
        rcases Nat.lt_or_ge i listed.size with hk | hk
        · simp [hk] at hun h1
          rw [hun] at h1; cases h1
        · simp [Array.getElem?_eq_none, hk] at h1
      refine wpOp_mono (fun a' w' h3 => ⟨fun _ => h3.2.1 hjs, ih _ a' w' (hcl.set hj) (fun k ok hk hki hku hkn => ?_) (ready_mono hr (Ne.symm hji)) h3.1 (h3.2.1 hjs) ?_⟩) (wpOp_putIf hoj (hfree j oj hoj hji hjun hno) (fun cs b => hsel i oi cs b hi) (fun cs b => hsel j oj cs b hoj) hQ hy (H.2 j (ready_mono hj hji)))
      · refine hfree k ok hk hki ?_ hkn
        rcases Nat.decEq j k with hjk | hjk
        · rwa [getD_set_ne true hjk] at hku
        · exact hjk ▸ hjun
      · rw [Array.setIfInBounds_comm _ _ hji]
        exact h3.2.2
    · subst hji
      exact hy.wpOp hi hS ⟨fun _ => hS, H⟩
end

section
variable {P : Program} {n : Nat} {ops : Array Oper} {Q : Exit → Act → World → Prop}
theorem trDT_sound {ds : List Nat} {a0 : Act} {K : Fr → World → Prop} (hQ : ∀ a F w, Rel n a F → Keep ds a0 a → K F w → Q .normal a w) (hP : ∀ c a w, ¬ Q (.panic c) a w)
    (hd : ∀ (i : Nat) (o : Oper), ops[i]? = some o → ∀ d, o.dst = some d → d ∈ ds) (hb : ∀ (i : Nat) (o : Oper), ops[i]? = some o → opB P n o = true) (hsel : Region.noSelect ops = true) :
    ∀ (t : DT) (S : World → Prop) (listed : Array Bool) (fuel : Nat) (F : Fr) (a : Act) (w : World), S w → Rel n a F → Keep ds a0 a →
      (drawTB ops false t listed = true → dtLen t ≤ fuel → trDT P n ops.toList false t S K F w → wpAnyH P .any ops Q S fuel listed a w) ∧
      (drawTB ops true t listed = true → dtLen t ≤ fuel + 1 → trDT P n ops.toList true t S K F w → ∀ j ∈ alts t, wpOp P ops Q j (fun a' w' => S w' ∧ wpAnyH P .any ops Q S fuel (listed.setIfInBounds j true) a' w') a w) := by
  have acts : ∀ (i : Nat) (o : Oper) (S : World → Prop) (listed : Array Bool) (fuel : Nat) (F : Fr) (a : Act) (w : World) (Kv : (World → Prop) → Value → World → Prop), ops[i]? = some o → knownB F o.op = true → S w → Rel n a F → Keep ds a0 a →
      (∀ (S' : World → Prop) v w', S' w' → Kv S' v w' → wpAnyH P .any ops Q S' fuel (listed.setIfInBounds i true) (a.put o.dst v) w') →
      guardedA ops.toList o.guard F S (trAct P o.op o.type F) Kv w → wpOp P ops Q i (fun a' w' => S w' ∧ wpAnyH P .any ops Q S fuel (listed.setIfInBounds i true) a' w') a w := by
    intro i o S listed fuel F a w Kv ho' hkn hS hR hk next h
    have hop := hb i o ho'
    unfold wpOp
    simp only [ho']
    rcases guardedA_cases (ops := ops) hR h with ⟨hw, h'⟩ | ⟨hw, h'⟩
    · rw [if_pos hw]
      exact .inl (trAct_sound hkn hR hop h'.out fun v w' ⟨S', hS', hsub, hh⟩ => ⟨hsub _ hS', wpAnyH_narrow hsub _ _ _ _ (next S' v w' hS' hh)⟩)
    · rw [hw]
      simp only [Bool.false_eq_true, if_false]
      exact ⟨hS, next S _ w hS h'⟩
  intro t
  induction t with
  | done =>
    intro S listed fuel F a w hS hR hk
    refine ⟨fun hB _ h => wpAnyH_done (by simpa [drawTB] using hB) (hQ a F w hR hk h) fuel, fun _ _ _ j hj => by simp [alts] at hj⟩
  | rd i t ih =>
    intro S listed fuel F a w hS hR hk
    refine ⟨fun hB hl h => ?_, fun _ _ _ j hj => by simp [alts] at hj⟩
    cases fuel with
    | zero => simp [dtLen] at hl
    | succ fuel =>
    simp only [trDT] at h
    cases ho : ops.toList[i]? with
    | none => rw [ho] at h; exact h.elim
    | some o =>
      rw [ho] at h
      have ho' : ops[i]? = some o := by rw [← ho]; simp
      simp only at h
      cases hkn : knownB F o.op with
      | false => rw [hkn] at h; exact h.elim
      | true =>
        rw [hkn] at h
        simp only [cond_true] at h
        have hop := hb i o ho'
        have hfit : fitsB n o = true := (Bool.and_eq_true _ _ ▸ hop : fitsB n o = true ∧ _).1
        simp only [drawTB, Bool.and_eq_true] at hB
        obtain ⟨⟨hB1, hB2⟩, hB3⟩ := hB
        have next : ∀ v w', S w' → (putK o.dst v F fun F => trDT P n ops.toList false t S K F w') → wpAnyH P .any ops Q S fuel (listed.setIfInBounds i true) (a.put o.dst v) w' := fun v w' hS' h' => by
          rw [putK_eq] at h'
          exact (ih S _ fuel _ _ w' hS' (hR.put hfit v) (Keep.put hR hk hfit (hd i o ho') v)).1 hB3 (by simp [dtLen] at hl; omega) h'
        rcases guarded_cases (ops := ops) hR h with ⟨hw, h'⟩ | ⟨hw, h'⟩
        · obtain ⟨v, hv, hK⟩ := trRead_sound hkn hR h'
          exact wpAnyH_take ho' hsel hB1 hB2 (fun c a w hq => (hP _ _ _ hq).elim) (.inl ⟨hw, hv⟩) hS (next v w hS hK)
        · exact wpAnyH_take ho' hsel hB1 hB2 (fun c a w hq => (hP _ _ _ hq).elim) (.inr ⟨hw, rfl⟩) hS (next _ w hS h')
  | act i t ih =>
    intro S listed fuel F a w hS hR hk
    refine ⟨fun hB hl h => ?_, fun _ _ _ j hj => by simp [alts] at hj⟩
    cases fuel with
    | zero => simp [dtLen] at hl
    | succ fuel =>
    simp only [trDT] at h
    cases ho : ops.toList[i]? with
    | none => rw [ho] at h; exact h.elim
    | some o =>
      rw [ho] at h
      have ho' : ops[i]? = some o := by rw [← ho]; simp
      simp only at h
      cases hkn : knownB F o.op with
      | false => rw [hkn] at h; exact h.elim
      | true =>
        rw [hkn] at h
        simp only [cond_true] at h
        have hfit : fitsB n o = true := (Bool.and_eq_true _ _ ▸ hb i o ho' : fitsB n o = true ∧ _).1
        simp only [drawTB, Bool.and_eq_true, decide_eq_true_eq] at hB
        refine wpAnyH_all hB.1 (by simp) fun j hj => ?_
        obtain rfl : j = i := by simpa using hj
        refine acts j o S listed fuel F a w _ ho' hkn hS hR hk (fun S' v w' hS' h' => ?_) h
        rw [putK_eq] at h'
        exact (ih S' _ fuel _ _ w' hS' (hR.put hfit v) (Keep.put hR hk hfit (hd j o ho') v)).1 hB.2 (by simp [dtLen] at hl; omega) h'
  | alt i t r iht ihr =>
    have both : ∀ (b : Bool) (S : World → Prop) (listed : Array Bool) (fuel : Nat) (F : Fr) (a : Act) (w : World), S w → Rel n a F → Keep ds a0 a → drawTB ops b (.alt i t r) listed = true → dtLen (.alt i t r) ≤ fuel + 1 → trDT P n ops.toList b (.alt i t r) S K F w →
        ∀ j ∈ alts (.alt i t r), wpOp P ops Q j (fun a' w' => S w' ∧ wpAnyH P .any ops Q S fuel (listed.setIfInBounds j true) a' w') a w := by
      intro b S listed fuel F a w hS hR hk hB hl h j hj
      have hq : match ops.toList[i]? with
        | none => False
        | some o => bif knownB F o.op then BothP (fun w => guardedA ops.toList o.guard F S (trAct P o.op o.type F) (fun S v w => putK o.dst v F fun F => trDT P n ops.toList false t S K F w) w) (fun w => trDT P n ops.toList true r S K F w) w else False := by cases b <;> exact h
      have hB : ((Region.ready .any ops listed).contains i && (b || (Region.ready .any ops listed).all fun j => (i :: alts r).any (Nat.beq j)) && (drawTB ops false t (listed.setIfInBounds i true) && drawTB ops true r listed)) = true := by cases b <;> exact hB
      simp only [Bool.and_eq_true] at hB
      obtain ⟨_, hB1, hB2⟩ := hB
      have hl1 : dtLen t + 1 ≤ fuel + 1 := Nat.le_trans (Nat.le_max_left _ _) hl
      have hl2 : dtLen r ≤ fuel + 1 := Nat.le_trans (Nat.le_max_right _ _) hl
      cases ho : ops.toList[i]? with
      | none => rw [ho] at hq; exact hq.elim
      | some o =>
        rw [ho] at hq
        have ho' : ops[i]? = some o := by rw [← ho]; simp
        simp only at hq
        cases hkn : knownB F o.op with
        | false => rw [hkn] at hq; exact hq.elim
        | true =>
          rw [hkn] at hq
          simp only [cond_true] at hq
          have hfit : fitsB n o = true := (Bool.and_eq_true _ _ ▸ hb i o ho' : fitsB n o = true ∧ _).1
          rcases List.mem_cons.1 hj with rfl | hj
          · refine acts j o S listed fuel F a w _ ho' hkn hS hR hk (fun S' v w' hS' h' => ?_) hq.fst
            rw [putK_eq] at h'
            exact (iht S' _ fuel _ _ w' hS' (hR.put hfit v) (Keep.put hR hk hfit (hd j o ho') v)).1 hB1 (by omega) h'
          · exact (ihr S listed fuel F a w hS hR hk).2 hB2 hl2 hq.snd j hj
    intro S listed fuel F a w hS hR hk
    refine ⟨fun hB hl h => ?_, fun hB hl h => both true S listed fuel F a w hS hR hk hB hl h⟩
    cases fuel with
    | zero => exact absurd (Nat.le_trans (Nat.le_max_left _ _) hl) (by omega)
    | succ fuel =>
      have hB' := hB
      have hB' : ((Region.ready .any ops listed).contains i && (false || (Region.ready .any ops listed).all fun j => (i :: alts r).any (Nat.beq j)) && (drawTB ops false t (listed.setIfInBounds i true) && drawTB ops true r listed)) = true := hB
      simp only [Bool.and_eq_true, Bool.false_or] at hB'
      obtain ⟨⟨h1, h2⟩, _⟩ := hB'
      refine ⟨fun he => absurd h1 (by rw [he]; simp), fun j hj => ?_⟩
      have hm := List.all_eq_true.1 h2 j hj
      exact both false S listed fuel F a w hS hR hk hB hl h j (any_beq_mem hm)
end

section
variable {P : Program} {n : Nat} {ops : Array Oper} {Q : Exit → Act → World → Prop}
theorem wpL_done {s : Nat} {S : World → Prop} {listed : Array Bool} {a : Act} {w : World} (hr : Region.ready .any ops listed = []) (h : Q .normal a w) : ∀ m, wpL P ops Q s S m listed a w
  | 0 => ⟨hr, h⟩
  | _ + 1 => ⟨fun _ => h, by rw [hr]; simp⟩
theorem last_sound {ds : List Nat} {a0 : Act} {K : Fr → World → Prop} {s : Nat} {o : Oper} (ho : ops[s]? = some o) {listed : Array Bool} (hr : Region.ready .any ops listed = [s]) (he : Region.ready .any ops (listed.setIfInBounds s true) = []) (hop : opB P n o = true)
    (hd : ∀ d, o.dst = some d → d ∈ ds) (hQ : ∀ a F w, Rel n a F → Keep ds a0 a → K F w → Q .normal a w) {a : Act} {F : Fr} {w : World} (hR : Rel n a F) (hk : Keep ds a0 a) (h : trOps P n ops.toList [o] K F w) (S : World → Prop) (m : Nat) : wpL P ops Q s S (m + 1) listed a w := by
  refine ⟨fun h0 => absurd (hr ▸ h0) (by simp), fun j hj => ?_⟩
  rw [hr] at hj
  obtain rfl : j = s := by simpa using hj
  have hfit : fitsB n o = true := (Bool.and_eq_true _ _ ▸ hop : fitsB n o = true ∧ _).1
  simp only [trOps] at h
  cases hkn : knownB F o.op with
  | false => rw [hkn] at h; exact h.elim
  | true =>
    rw [hkn] at h
    simp only [cond_true] at h
    have fin : ∀ v w', (putK o.dst v F fun F => K F w') → (j ≠ j → S w') ∧ wpL P ops Q j S m (listed.setIfInBounds j true) (a.put o.dst v) w' := fun v w' h' => by
      rw [putK_eq] at h'
      exact ⟨fun hne => absurd rfl hne, wpL_done he (hQ _ _ _ (hR.put hfit v) (Keep.put hR hk hfit hd v) h') m⟩
    unfold wpOp
    simp only [ho]
    rcases guarded_cases (ops := ops) hR h with ⟨hw, h'⟩ | ⟨hw, h'⟩
    · rw [if_pos hw]
      exact .inl (trAct_sound hkn hR hop h' fun v w' hh => fin v w' hh)
    · rw [hw]
      simp only [Bool.false_eq_true, if_false]
      exact fin _ w h'
theorem trDrawL_sound {ds : List Nat} {a0 : Act} {K : Fr → World → Prop} {s : Nat} (hcov : coverB ops s = true) (hQ : ∀ listed a F w, Region.ready .any ops listed = [s] → Region.ready .any ops (listed.setIfInBounds s true) = [] → Rel n a F → Keep ds a0 a → K F w → ∀ S fuel, wpL P ops Q s S (fuel + 1) listed a w) (hP : ∀ c a w, ¬ Q (.panic c) a w)
    (hd : ∀ (i : Nat) (o : Oper), ops[i]? = some o → ∀ d, o.dst = some d → d ∈ ds) (hb : ∀ (i : Nat) (o : Oper), ops[i]? = some o → opB P n o = true) (hsel : Region.noSelect ops = true) :
    ∀ (l : List (Bool × Nat)) (S : World → Prop) (listed : Array Bool) (fuel : Nat) (F : Fr) (a : Act) (w : World), Closed ops listed → drawLB ops s l listed = true → l.length + 1 ≤ fuel → S w → Rel n a F → Keep ds a0 a →
      trDraw P n ops.toList l S K F w → wpL P ops Q s S fuel listed a w
  | [], S, listed, 0, F, a, w, _, _, hl, _, _, _, _ => by simp at hl
  | [], S, listed, fuel + 1, F, a, w, _, hB, _, _, hR, hk, h => by
    simp only [drawLB, Bool.and_eq_true, decide_eq_true_eq, List.isEmpty_iff] at hB
    exact hQ listed a F w hB.1 hB.2 hR hk h S fuel
  | (rd, i) :: r, S, listed, 0, F, a, w, _, _, hl, _, _, _, _ => by simp at hl
  | (rd, i) :: r, S, listed, fuel + 1, F, a, w, hcl, hB, hl, hS, hR, hk, h => by
    simp only [trDraw] at h
    have hl' : r.length + 1 ≤ fuel := by simpa using hl
    cases ho : ops.toList[i]? with
    | none => rw [ho] at h; exact h.elim
    | some o =>
      rw [ho] at h
      have ho' : ops[i]? = some o := by rw [← ho]; simp
      simp only at h
      cases hkn : knownB F o.op with
      | false => rw [hkn] at h; exact h.elim
      | true =>
        rw [hkn] at h
        simp only [cond_true] at h
        have hop := hb i o ho'
        have hfit : fitsB n o = true := (Bool.and_eq_true _ _ ▸ hop : fitsB n o = true ∧ _).1
        simp only [drawLB, Bool.and_eq_true, Bool.not_eq_true'] at hB
        obtain ⟨⟨his', hB1⟩, hB2⟩ := hB
        have his : i ≠ s := fun e => by subst e; rw [Nat.beq_refl] at his'; cases his'
        have hrdy : i ∈ Region.ready .any ops listed := by
          cases rd with
          | true => simp only [cond_true, Bool.and_eq_true] at hB1; simpa using hB1.2
          | false => simp only [cond_false, decide_eq_true_eq] at hB1; rw [hB1]; simp
        have hcl' := hcl.set hrdy
        have next : ∀ (S' : World → Prop) v w', S' w' → (putK o.dst v F fun F => trDraw P n ops.toList r S' K F w') → wpL P ops Q s S' fuel (listed.setIfInBounds i true) (a.put o.dst v) w' := fun S' v w' hS' h' => by
          rw [putK_eq] at h'
          exact trDrawL_sound hcov hQ hP hd hb hsel r S' _ fuel _ _ _ hcl' hB2 hl' hS' (hR.put hfit v) (Keep.put hR hk hfit (hd i o ho') v) h'
        cases rd with
        | true =>
          simp only [cond_true, Bool.and_eq_true] at h hB1
          rcases guarded_cases (ops := ops) hR h with ⟨hw, h'⟩ | ⟨hw, h'⟩
          · obtain ⟨v, hv, hK⟩ := trRead_sound hkn hR h'
            exact wpL_read hcov ho' his (Region.noSelect_spec hsel) (fun c a w hq => (hP _ _ _ hq).elim) fuel listed a w hcl (Region.free_spec ho' hB1.1) hrdy (.inl ⟨hw, hv⟩) hS (next S v w hS hK)
          · exact wpL_read hcov ho' his (Region.noSelect_spec hsel) (fun c a w hq => (hP _ _ _ hq).elim) fuel listed a w hcl (Region.free_spec ho' hB1.1) hrdy (.inr ⟨hw, rfl⟩) hS (next S _ w hS h')
        | false =>
          simp only [cond_false, decide_eq_true_eq] at h hB1
          refine ⟨fun h0 => absurd (hB1 ▸ h0) (by simp), fun j hj => ?_⟩
          rw [hB1] at hj
          obtain rfl : j = i := by simpa using hj
          unfold wpOp
          simp only [ho']
          rcases guardedA_cases (ops := ops) hR h with ⟨hw, h'⟩ | ⟨hw, h'⟩
          · rw [if_pos hw]
            exact .inl (trAct_sound hkn hR hop h'.out fun v w' ⟨S', hS', hsub, hh⟩ => ⟨fun _ => hsub _ hS', wpL_narrow hsub _ _ _ _ (next S' v w' hS' hh)⟩)
          · rw [hw]
            simp only [Bool.false_eq_true, if_false]
            exact ⟨fun _ => hS, next S _ w hS h'⟩
end

section
variable {P : Program} {n : Nat} {ops : Array Oper} {Q : Exit → Act → World → Prop}
theorem trDTL_sound {ds : List Nat} {a0 : Act} {K : Fr → World → Prop} {s : Nat} (hcov : coverB ops s = true) (hQ : ∀ listed a F w, Region.ready .any ops listed = [s] → Region.ready .any ops (listed.setIfInBounds s true) = [] → Rel n a F → Keep ds a0 a → K F w → ∀ S fuel, wpL P ops Q s S (fuel + 1) listed a w) (hP : ∀ c a w, ¬ Q (.panic c) a w)
    (hd : ∀ (i : Nat) (o : Oper), ops[i]? = some o → ∀ d, o.dst = some d → d ∈ ds) (hb : ∀ (i : Nat) (o : Oper), ops[i]? = some o → opB P n o = true) (hsel : Region.noSelect ops = true) :
    ∀ (t : DT) (S : World → Prop) (listed : Array Bool) (fuel : Nat) (F : Fr) (a : Act) (w : World), Closed ops listed → S w → Rel n a F → Keep ds a0 a →
      (drawTLB ops s false t listed = true → dtLen t + 1 ≤ fuel → trDT P n ops.toList false t S K F w → wpL P ops Q s S fuel listed a w) ∧
      (drawTLB ops s true t listed = true → dtLen t ≤ fuel → trDT P n ops.toList true t S K F w → ∀ j ∈ alts t, j ∈ Region.ready .any ops listed → wpOp P ops Q j (fun a' w' => (j ≠ s → S w') ∧ wpL P ops Q s S fuel (listed.setIfInBounds j true) a' w') a w) := by
  have acts : ∀ (i : Nat) (o : Oper) (S : World → Prop) (listed : Array Bool) (fuel : Nat) (F : Fr) (a : Act) (w : World) (Kv : (World → Prop) → Value → World → Prop), ops[i]? = some o → knownB F o.op = true → S w → Rel n a F → Keep ds a0 a →
      (∀ (S' : World → Prop) v w', S' w' → Kv S' v w' → wpL P ops Q s S' fuel (listed.setIfInBounds i true) (a.put o.dst v) w') →
      guardedA ops.toList o.guard F S (trAct P o.op o.type F) Kv w → wpOp P ops Q i (fun a' w' => (i ≠ s → S w') ∧ wpL P ops Q s S fuel (listed.setIfInBounds i true) a' w') a w := by
    intro i o S listed fuel F a w Kv ho' hkn hS hR hk next h
    have hop := hb i o ho'
    unfold wpOp
    simp only [ho']
    rcases guardedA_cases (ops := ops) hR h with ⟨hw, h'⟩ | ⟨hw, h'⟩
    · rw [if_pos hw]
      exact .inl (trAct_sound hkn hR hop h'.out fun v w' ⟨S', hS', hsub, hh⟩ => ⟨fun _ => hsub _ hS', wpL_narrow hsub _ _ _ _ (next S' v w' hS' hh)⟩)
    · rw [hw]
      simp only [Bool.false_eq_true, if_false]
      exact ⟨fun _ => hS, next S _ w hS h'⟩
  intro t
  induction t with
  | done =>
    intro S listed fuel F a w hcl hS hR hk
    refine ⟨fun hB hl h => ?_, fun _ _ _ j hj => by simp [alts] at hj⟩
    simp only [drawTLB, Bool.and_eq_true, decide_eq_true_eq, List.isEmpty_iff] at hB
    cases fuel with
    | zero => simp at hl
    | succ fuel => exact hQ listed a F w hB.1 hB.2 hR hk h S fuel
  | rd i t ih =>
    intro S listed fuel F a w hcl hS hR hk
    refine ⟨fun hB hl h => ?_, fun _ _ _ j hj => by simp [alts] at hj⟩
    cases fuel with
    | zero => simp at hl
    | succ fuel =>
    simp only [trDT] at h
    cases ho : ops.toList[i]? with
    | none => rw [ho] at h; exact h.elim
    | some o =>
      rw [ho] at h
      have ho' : ops[i]? = some o := by rw [← ho]; simp
      simp only at h
      cases hkn : knownB F o.op with
      | false => rw [hkn] at h; exact h.elim
      | true =>
        rw [hkn] at h
        simp only [cond_true] at h
        have hop := hb i o ho'
        have hfit : fitsB n o = true := (Bool.and_eq_true _ _ ▸ hop : fitsB n o = true ∧ _).1
        simp only [drawTLB, Bool.and_eq_true, Bool.not_eq_true'] at hB
        obtain ⟨⟨his', hB1, hB2⟩, hB3⟩ := hB
        have his : i ≠ s := fun e => by subst e; rw [Nat.beq_refl] at his'; cases his'
        have hrdy : i ∈ Region.ready .any ops listed := by simpa using hB2
        have next : ∀ v w', S w' → (putK o.dst v F fun F => trDT P n ops.toList false t S K F w') → wpL P ops Q s S fuel (listed.setIfInBounds i true) (a.put o.dst v) w' := fun v w' hS' h' => by
          rw [putK_eq] at h'
          exact (ih S _ fuel _ _ w' (hcl.set hrdy) hS' (hR.put hfit v) (Keep.put hR hk hfit (hd i o ho') v)).1 hB3 (by simp [dtLen] at hl; omega) h'
        rcases guarded_cases (ops := ops) hR h with ⟨hw, h'⟩ | ⟨hw, h'⟩
        · obtain ⟨v, hv, hK⟩ := trRead_sound hkn hR h'
          exact wpL_read hcov ho' his (Region.noSelect_spec hsel) (fun c a w hq => (hP _ _ _ hq).elim) fuel listed a w hcl (Region.free_spec ho' hB1) hrdy (.inl ⟨hw, hv⟩) hS (next v w hS hK)
        · exact wpL_read hcov ho' his (Region.noSelect_spec hsel) (fun c a w hq => (hP _ _ _ hq).elim) fuel listed a w hcl (Region.free_spec ho' hB1) hrdy (.inr ⟨hw, rfl⟩) hS (next _ w hS h')
  | act i t ih =>
    intro S listed fuel F a w hcl hS hR hk
    refine ⟨fun hB hl h => ?_, fun _ _ _ j hj => by simp [alts] at hj⟩
    cases fuel with
    | zero => simp at hl
    | succ fuel =>
    simp only [trDT] at h
    cases ho : ops.toList[i]? with
    | none => rw [ho] at h; exact h.elim
    | some o =>
      rw [ho] at h
      have ho' : ops[i]? = some o := by rw [← ho]; simp
      simp only at h
      cases hkn : knownB F o.op with
      | false => rw [hkn] at h; exact h.elim
      | true =>
        rw [hkn] at h
        simp only [cond_true] at h
        have hfit : fitsB n o = true := (Bool.and_eq_true _ _ ▸ hb i o ho' : fitsB n o = true ∧ _).1
        simp only [drawTLB, Bool.and_eq_true, decide_eq_true_eq, Bool.not_eq_true'] at hB
        obtain ⟨⟨_, hB1⟩, hB2⟩ := hB
        have hrdy : i ∈ Region.ready .any ops listed := by rw [hB1]; simp
        refine ⟨fun h0 => absurd (hB1 ▸ h0) (by simp), fun j hj => ?_⟩
        rw [hB1] at hj
        obtain rfl : j = i := by simpa using hj
        refine acts j o S listed fuel F a w _ ho' hkn hS hR hk (fun S' v w' hS' h' => ?_) h
        rw [putK_eq] at h'
        exact (ih S' _ fuel _ _ w' (hcl.set hrdy) hS' (hR.put hfit v) (Keep.put hR hk hfit (hd j o ho') v)).1 hB2 (by simp [dtLen] at hl; omega) h'
  | alt i t r iht ihr =>
    have both : ∀ (b : Bool) (S : World → Prop) (listed : Array Bool) (fuel : Nat) (F : Fr) (a : Act) (w : World), Closed ops listed → S w → Rel n a F → Keep ds a0 a → drawTLB ops s b (.alt i t r) listed = true → dtLen (.alt i t r) ≤ fuel → trDT P n ops.toList b (.alt i t r) S K F w →
        ∀ j ∈ alts (.alt i t r), j ∈ Region.ready .any ops listed → wpOp P ops Q j (fun a' w' => (j ≠ s → S w') ∧ wpL P ops Q s S fuel (listed.setIfInBounds j true) a' w') a w := by
      intro b S listed fuel F a w hcl hS hR hk hB hl h j hj hjr
      have hq : match ops.toList[i]? with
        | none => False
        | some o => bif knownB F o.op then BothP (fun w => guardedA ops.toList o.guard F S (trAct P o.op o.type F) (fun S v w => putK o.dst v F fun F => trDT P n ops.toList false t S K F w) w) (fun w => trDT P n ops.toList true r S K F w) w else False := by cases b <;> exact h
      have hB : (!Nat.beq i s && ((Region.ready .any ops listed).contains i && (b || (Region.ready .any ops listed).all fun j => (i :: alts r).any (Nat.beq j))) && (drawTLB ops s false t (listed.setIfInBounds i true) && drawTLB ops s true r listed)) = true := by cases b <;> exact hB
      simp only [Bool.and_eq_true] at hB
      obtain ⟨_, hB1, hB2⟩ := hB
      have hl1 : dtLen t + 1 ≤ fuel := Nat.le_trans (Nat.le_max_left _ _) hl
      have hl2 : dtLen r ≤ fuel := Nat.le_trans (Nat.le_max_right _ _) hl
      cases ho : ops.toList[i]? with
      | none => rw [ho] at hq; exact hq.elim
      | some o =>
        rw [ho] at hq
        have ho' : ops[i]? = some o := by rw [← ho]; simp
        simp only at hq
        cases hkn : knownB F o.op with
        | false => rw [hkn] at hq; exact hq.elim
        | true =>
          rw [hkn] at hq
          simp only [cond_true] at hq
          have hfit : fitsB n o = true := (Bool.and_eq_true _ _ ▸ hb i o ho' : fitsB n o = true ∧ _).1
          rcases List.mem_cons.1 hj with rfl | hj
          · refine acts j o S listed fuel F a w _ ho' hkn hS hR hk (fun S' v w' hS' h' => ?_) hq.fst
            rw [putK_eq] at h'
            exact (iht S' _ fuel _ _ w' (hcl.set hjr) hS' (hR.put hfit v) (Keep.put hR hk hfit (hd j o ho') v)).1 hB1 hl1 h'
          · exact (ihr S listed fuel F a w hcl hS hR hk).2 hB2 hl2 hq.snd j hj hjr
    intro S listed fuel F a w hcl hS hR hk
    refine ⟨fun hB hl h => ?_, fun hB hl h => both true S listed fuel F a w hcl hS hR hk hB hl h⟩
    cases fuel with
    | zero => simp at hl
    | succ fuel =>
      have hB' : (!Nat.beq i s && ((Region.ready .any ops listed).contains i && (false || (Region.ready .any ops listed).all fun j => (i :: alts r).any (Nat.beq j))) && (drawTLB ops s false t (listed.setIfInBounds i true) && drawTLB ops s true r listed)) = true := hB
      simp only [Bool.and_eq_true, Bool.false_or] at hB'
      obtain ⟨⟨_, h1, h2⟩, _⟩ := hB'
      refine ⟨fun he => absurd h1 (by rw [he]; simp), fun j hj => ?_⟩
      have hm := List.all_eq_true.1 h2 j hj
      exact both false S listed fuel F a w hcl hS hR hk hB (by omega) h j (any_beq_mem hm) hj
end

theorem getAll_slots {n : Nat} {a : Act} {F : Fr} (hR : Rel n a F) : ∀ (cs : List Nat) (vs : List Value), getAll F cs = some vs → vs = cs.map fun c => a.tmps.getD c undef
  | [], vs, h => by simp [getAll] at h; subst h; rfl
  | c :: cs, vs, h => by
    simp only [getAll] at h
    cases hc : getO F c with
    | none => rw [hc] at h; cases h
    | some v =>
      rw [hc] at h
      simp only at h
      cases hg : getAll F cs with
      | none => rw [hg] at h; cases h
      | some us =>
        rw [hg] at h
        simp only [Option.some.injEq] at h
        subst h
        rw [List.map_cons, ← getAll_slots hR cs us hg, hR.slot c v hc]

theorem Rel.bind {n : Nat} {a : Act} : ∀ (cs : List Nat) (G : Fr) (k : Fr → Prop), Rel n a G → bindK cs (cs.map fun c => a.tmps.getD c undef) G k → ∃ F, Rel n a F ∧ k F
  | [], G, k, hR, h => ⟨G, hR, h⟩
  | c :: cs, G, k, hR, h => by
    simp only [List.map_cons, bindK, List.headD_cons, List.tail_cons] at h
    refine Rel.bind cs _ k ⟨hR.defers, hR.size, fun t v hv => ?_⟩ h
    simp only [getO] at hv
    cases hb : Nat.beq c t with
    | true =>
      rw [hb] at hv
      have : c = t := Nat.eq_of_beq_eq_true hb
      subst this
      simpa using hv
    | false =>
      rw [hb] at hv
      exact hR.slot t v hv

theorem any_beq {ds : List Nat} (x : Nat) : ds.any (Nat.beq x ·) = true ↔ x ∈ ds := by
  rw [List.any_eq_true]
  constructor
  · rintro ⟨y, hy, hb⟩; rw [Nat.eq_of_beq_eq_true hb]; exact hy
  · intro hx; exact ⟨x, hx, Nat.beq_refl x⟩

theorem getO_cons (s : Nat) (u : Value) (r : Fr) (t : Nat) : getO ((s, u) :: r) t = if s = t then some u else getO r t := by
  simp only [getO]
  by_cases h : s = t
  · subst h; simp
  · have : Nat.beq s t = false := by rw [← Bool.not_eq_true, Nat.beq_eq]; exact h
    rw [this, if_neg h]; rfl

theorem dropK_spec {ds : List Nat} : ∀ (F G : Fr) (k : Fr → Prop), dropK ds F G k → ∃ H, k H ∧ ∀ t v, getO H t = some v → getO G t = some v ∨ (getO G t = none ∧ t ∉ ds ∧ getO F t = some v)
  | [], G, k, h => ⟨G, h, fun t v hv => .inl hv⟩
  | (s, u) :: r, G, k, h => by
    simp only [dropK] at h
    cases hb : ds.any (Nat.beq s ·) with
    | true =>
      rw [hb] at h
      obtain ⟨H, hk, hs⟩ := dropK_spec r G k h
      refine ⟨H, hk, fun t v hv => (hs t v hv).imp_right fun ⟨h1, h2, h3⟩ => ⟨h1, h2, ?_⟩⟩
      rw [getO_cons, if_neg (fun e : s = t => h2 (e ▸ (any_beq s).1 hb))]
      exact h3
    | false =>
      have hsd : s ∉ ds := fun hm => by rw [(any_beq s).2 hm] at hb; cases hb
      rw [hb] at h
      simp only [cond_false] at h
      cases hg : getO G s with
      | some z =>
        rw [hg] at h
        obtain ⟨H, hk, hs⟩ := dropK_spec r G k h
        refine ⟨H, hk, fun t v hv => (hs t v hv).imp_right fun ⟨h1, h2, h3⟩ => ⟨h1, h2, ?_⟩⟩
        rw [getO_cons, if_neg (fun e : s = t => by subst e; rw [hg] at h1; cases h1)]
        exact h3
      | none =>
        rw [hg] at h
        obtain ⟨H, hk, hs⟩ := dropK_spec r _ k h
        refine ⟨H, hk, fun t v hv => ?_⟩
        have h0 := hs t v hv
        rw [getO_cons] at h0 ⊢
        by_cases hst : s = t
        · subst hst
          simp only [if_true] at h0 ⊢
          rcases h0 with h0 | h0
          · exact .inr ⟨hg, hsd, h0⟩
          · exact absurd h0.1 (by simp)
        · simp only [if_neg hst] at h0 ⊢
          exact h0

theorem Rel.dropped {n : Nat} {a0 a : Act} {ds : List Nat} {F H : Fr} (hR : Rel n a0 F) (hd : a.defers = []) (hs : a.tmps.size = n) (hk : Keep ds a0 a)
    (hH : ∀ t v, getO H t = some v → getO [] t = some v ∨ (getO [] t = none ∧ t ∉ ds ∧ getO F t = some v)) : Rel n a H :=
  ⟨hd, hs, fun t v hv => by
    rcases hH t v hv with h | ⟨_, h1, h2⟩
    · simp [getO] at h
    · rw [hk t h1]; exact hR.slot t v h2⟩

def Post (n : Nat) (ds : List Nat) (a0 : Act) (Q : Exit → Fr → World → Prop) : Exit → Act → World → Prop
  | .normal, a, w => ∃ F, Rel n a F ∧ Keep ds a0 a ∧ Q .normal F w
  | .exit id, a, w => ∃ F, Rel n a F ∧ Keep ds a0 a ∧ Q (.exit id) F w
  | .ret, a, w => ∃ F, Rel n a F ∧ Q .ret F w
  | _, _, _ => False

theorem Post.mono {n : Nat} {ds es : List Nat} {a0 a1 : Act} {Q : Exit → Fr → World → Prop} (hs : ∀ t, t ∈ ds → t ∈ es) (hk : Keep es a0 a1) : ∀ e a w, Post n ds a1 Q e a w → Post n es a0 Q e a w
  | .normal, _, _, ⟨F, hR, h, hq⟩ => ⟨F, hR, hk.trans (h.mono hs), hq⟩
  | .exit _, _, _, ⟨F, hR, h, hq⟩ => ⟨F, hR, hk.trans (h.mono hs), hq⟩
  | .ret, _, _, h => h
  | .goto _, _, _, h => h
  | .panic _, _, _, h => h
  | .outgrown, _, _, h => h

theorem tr_sound {P : Program} {n : Nat} (hm : P.follows .mixedOrders = true) : ∀ (c : Code) (p : Plan) (Q : Exit → Fr → World → Prop) (F : Fr) (a : Act) (w : World),
    okB P n c p = true → Rel n a F → tr P n c p Q F w → c.wp P (Post n (dsts c) a Q) a w := by
  intro c
  induction c with
  | skip => exact fun p Q F a w _ hR h => wp_skip ⟨F, hR, Keep.refl _ _, by cases p <;> exact h⟩
  | ret => exact fun p Q F a w _ hR h => wp_ret ⟨F, hR, by cases p <;> exact h⟩
  | exit id => exact fun p Q F a w _ hR h => wp_exit ⟨F, hR, Keep.refl _ _, by cases p <;> exact h⟩
  | region id ops draw =>
    intro p Q F a w hB hR h
    have hmem : ∀ o ∈ ops.toList, ∀ d, o.dst = some d → d ∈ dsts (.region id ops draw) := fun o ho d hd => List.mem_filterMap.2 ⟨o, ho, hd⟩
    cases draw with
    | false =>
      have hB' : ops.toList.all (opB P n) = true := by cases p <;> exact hB
      have h' : trOps P n ops.toList ops.toList (Q .normal) F w := by cases p <;> exact h
      exact wp_region_list (trOps_sound (K := Q .normal) (a0 := a) (fun a' F' w' h1 h2 h3 => ⟨F', h1, h2, h3⟩) ops.toList F a w hmem hB' hR (Keep.refl _ _) h')
    | true =>
      cases p with
      | draw l =>
        simp only [okB, Bool.and_eq_true] at hB
        obtain ⟨hB1, hB2, hB3, hB4⟩ := hB
        simp only [tr] at h
        obtain ⟨S, hS, h⟩ := h.out
        refine wp_region_held hm (S := S) ?_
        refine trDraw_sound (K := Q .normal) (a0 := a) (ds := dsts (.region id ops true)) (fun a' F' w' h1 h2 h3 => ⟨F', h1, h2, h3⟩) (fun c a w h => h) (fun i o ho => hmem o ?_) (fun i o ho => ?_) hB2 l S _ _ F a _ hB3 (Nat.le_of_ble_eq_true hB4) hS hR (Keep.refl _ _) h
        · exact Array.mem_toList_iff.2 (Array.mem_of_getElem? ho)
        · exact List.all_eq_true.1 hB1 o (Array.mem_toList_iff.2 (Array.mem_of_getElem? ho))
      | drawL l s =>
        simp only [okB, Bool.and_eq_true] at hB
        obtain ⟨hB1, hB2, hB3, hB4, hB5⟩ := hB
        simp only [tr] at h
        obtain ⟨S, hS, h⟩ := h.out
        refine wp_region_any hm (wpAny_of_wpL (s := s) (S := S) _ _ _ _ ?_)
        refine trDrawL_sound (s := s) (a0 := a) (ds := dsts (.region id ops true)) hB4 (fun listed a' F' w' hr he hR' hk' hK S' m => ?_) (fun c a w h => h) (fun i o ho => hmem o ?_) (fun i o ho => ?_) hB2 l S _ _ F a _ (Closed.start _ _) hB3 (Nat.le_of_ble_eq_true hB5) hS hR (Keep.refl _ _) h
        · cases ho : ops[s]? with
          | none => rw [ho] at hK; exact hK.elim
          | some o =>
            rw [ho] at hK
            have hmo : o ∈ ops.toList := Array.mem_toList_iff.2 (Array.mem_of_getElem? ho)
            exact last_sound (K := Q .normal) (a0 := a) ho hr he (List.all_eq_true.1 hB1 o hmo) (hmem o hmo) (fun a' F' w' h1 h2 h3 => ⟨F', h1, h2, h3⟩) hR' hk' hK S' m
        · exact Array.mem_toList_iff.2 (Array.mem_of_getElem? ho)
        · exact List.all_eq_true.1 hB1 o (Array.mem_toList_iff.2 (Array.mem_of_getElem? ho))
      | drawTL t s =>
        simp only [okB, Bool.and_eq_true] at hB
        obtain ⟨hB1, hB2, hB3, hB4, hB5⟩ := hB
        simp only [tr] at h
        obtain ⟨S, hS, h⟩ := h.out
        refine wp_region_any hm (wpAny_of_wpL (s := s) (S := S) _ _ _ _ ?_)
        refine (trDTL_sound (s := s) (a0 := a) (ds := dsts (.region id ops true)) hB4 (fun listed a' F' w' hr he hR' hk' hK S' m => ?_) (fun c a w h => h) (fun i o ho => hmem o ?_) (fun i o ho => ?_) hB2 t S _ _ F a _ (Closed.start _ _) hS hR (Keep.refl _ _)).1 hB3 (Nat.le_of_ble_eq_true hB5) h
        · cases ho : ops[s]? with
          | none => rw [ho] at hK; exact hK.elim
          | some o =>
            rw [ho] at hK
            have hmo : o ∈ ops.toList := Array.mem_toList_iff.2 (Array.mem_of_getElem? ho)
            exact last_sound (K := Q .normal) (a0 := a) ho hr he (List.all_eq_true.1 hB1 o hmo) (hmem o hmo) (fun a' F' w' h1 h2 h3 => ⟨F', h1, h2, h3⟩) hR' hk' hK S' m
        · exact Array.mem_toList_iff.2 (Array.mem_of_getElem? ho)
        · exact List.all_eq_true.1 hB1 o (Array.mem_toList_iff.2 (Array.mem_of_getElem? ho))
      | drawT t =>
        simp only [okB, Bool.and_eq_true] at hB
        obtain ⟨hB1, hB2, hB3, hB4⟩ := hB
        simp only [tr] at h
        obtain ⟨S, hS, h⟩ := h.out
        refine wp_region_held hm (S := S) ?_
        refine (trDT_sound (K := Q .normal) (a0 := a) (ds := dsts (.region id ops true)) (fun a' F' w' h1 h2 h3 => ⟨F', h1, h2, h3⟩) (fun c a w h => h) (fun i o ho => hmem o ?_) (fun i o ho => ?_) hB2 t S _ _ F a _ hS hR (Keep.refl _ _)).1 hB3 (Nat.le_of_ble_eq_true hB4) h
        · exact Array.mem_toList_iff.2 (Array.mem_of_getElem? ho)
        · exact List.all_eq_true.1 hB1 o (Array.mem_toList_iff.2 (Array.mem_of_getElem? ho))
      | leaf => exact h.elim
      | one _ => exact h.elim
      | two _ _ => exact h.elim
      | join _ _ _ => exact h.elim
      | loop _ _ => exact h.elim
  | seq x y ihx ihy =>
    intro p Q F a w hB hR h
    cases p with
    | two p q =>
      simp only [okB, Bool.and_eq_true] at hB
      simp only [tr] at h
      refine wp_seq (wp_mono (ihx p _ F a w hB.1 hR h) fun e a1 w1 hp => ?_)
      cases e with
      | normal =>
        obtain ⟨F1, hR1, hk1, h1⟩ := hp
        exact wp_mono (ihy q Q F1 a1 w1 hB.2 hR1 h1) (Post.mono (fun t ht => List.mem_append_right _ ht) (hk1.mono fun t ht => List.mem_append_left _ ht))
      | exit id =>
        obtain ⟨F1, hR1, hk1, h1⟩ := hp
        exact ⟨F1, hR1, hk1.mono fun t ht => List.mem_append_left _ ht, h1⟩
      | ret => exact hp
      | goto _ => exact hp.elim
      | panic _ => exact hp.elim
      | outgrown => exact hp.elim
    | join cs p q =>
      simp only [okB, Bool.and_eq_true] at hB
      simp only [tr] at h
      obtain ⟨G, h, hG⟩ := dropK_spec F [] _ h
      replace h := h.out
      refine wp_seq (wp_mono (ihx p _ F a w hB.1 hR h) fun e a1 w1 hp => ?_)
      cases e with
      | normal =>
        obtain ⟨F1, hR1, hk1, h1⟩ := hp
        simp only [jump] at h1
        cases hg : getAll F1 cs with
        | none => rw [hg] at h1; exact h1.elim
        | some vs =>
          rw [hg] at h1
          have hvs := getAll_slots hR1 cs vs hg
          subst hvs
          obtain ⟨F2, hR2, h2⟩ := Rel.bind cs G _ (hR.dropped hR1.defers hR1.size hk1 hG) h1
          exact wp_mono (ihy q Q F2 a1 w1 hB.2 hR2 h2) (Post.mono (fun t ht => List.mem_append_right _ ht) (hk1.mono fun t ht => List.mem_append_left _ ht))
      | exit id =>
        obtain ⟨F1, hR1, hk1, h1⟩ := hp
        exact ⟨F1, hR1, hk1.mono fun t ht => List.mem_append_left _ ht, h1⟩
      | ret => exact hp
      | goto _ => exact hp.elim
      | panic _ => exact hp.elim
      | outgrown => exact hp.elim
    | leaf => exact h.elim
    | one _ => exact h.elim
    | loop _ _ => exact h.elim
    | draw _ => exact h.elim
    | drawL _ _ => exact h.elim
    | drawT _ => exact h.elim
    | drawTL _ _ => exact h.elim
  | cond v x y ihx ihy =>
    intro p Q F a w hB hR h
    cases p with
    | two p q =>
      simp only [okB, Bool.and_eq_true] at hB
      simp only [tr] at h
      cases hv : evO F v with
      | none => rw [hv] at h; exact h.elim
      | some u =>
        rw [hv] at h
        obtain ⟨b, hb, h1, h2⟩ := h.out
        have he : a.eval v = .bool b := by
          rw [hR.evalx (by rw [hv]; rfl)]
          simp [ev, hv, hb]
        cases b with
        | true => exact wp_cond_true he (wp_mono (ihx p Q F a w hB.1 hR (h1 rfl)) (Post.mono (fun t ht => List.mem_append_left _ ht) (Keep.refl _ _)))
        | false => exact wp_cond_false he (wp_mono (ihy q Q F a w hB.2 hR (h2 rfl)) (Post.mono (fun t ht => List.mem_append_right _ ht) (Keep.refl _ _)))
    | leaf => exact h.elim
    | one _ => exact h.elim
    | join _ _ _ => exact h.elim
    | loop _ _ => exact h.elim
    | draw _ => exact h.elim
    | drawL _ _ => exact h.elim
    | drawT _ => exact h.elim
    | drawTL _ _ => exact h.elim
  | block id x ih =>
    intro p Q F a w hB hR h
    cases p with
    | one p =>
      simp only [okB] at hB
      simp only [tr] at h
      refine wp_block (wp_mono (ih p _ F a w hB hR h) fun e a1 w1 hp => ?_)
      cases e with
      | normal => exact hp
      | exit id' =>
        obtain ⟨F1, hR1, hk1, h1⟩ := hp
        simp only [Exit.inBlock]
        by_cases hid : id' = id
        · subst hid
          simp only [Nat.beq_refl, cond_true] at h1
          rw [if_pos rfl]
          exact ⟨F1, hR1, hk1, h1⟩
        · have : Nat.beq id' id = false := by rw [← Bool.not_eq_true, Nat.beq_eq]; exact hid
          simp only [this, cond_false] at h1
          rw [if_neg hid]
          exact ⟨F1, hR1, hk1, h1⟩
      | ret => exact hp
      | goto _ => exact hp.elim
      | panic _ => exact hp.elim
      | outgrown => exact hp.elim
    | leaf => exact h.elim
    | two _ _ => exact h.elim
    | join _ _ _ => exact h.elim
    | loop _ _ => exact h.elim
    | draw _ => exact h.elim
    | drawL _ _ => exact h.elim
    | drawT _ => exact h.elim
    | drawTL _ _ => exact h.elim
  | loop x ih =>
    intro p Q F a w hB hR h
    cases p with
    | loop cs p =>
      simp only [okB] at hB
      simp only [tr] at h
      cases hg : getAll F cs with
      | none => rw [hg] at h; exact h.elim
      | some vs =>
        rw [hg] at h
        obtain ⟨G, h, hG⟩ := dropK_spec F [] _ h
        obtain ⟨I, μ, h0, hround⟩ := h.out
        have hvs := getAll_slots hR cs vs hg
        subst hvs
        refine wp_loop (fun a' w' => I (cs.map fun c => a'.tmps.getD c undef) w' ∧ a'.defers = [] ∧ a'.tmps.size = n ∧ Keep (dsts x) a a') (fun a' w' => μ (cs.map fun c => a'.tmps.getD c undef) w')
          ⟨h0, hR.defers, hR.size, Keep.refl _ _⟩ fun a' w' hI => ?_
        obtain ⟨hI, hd, hs, hk⟩ := hI
        obtain ⟨F2, hR2, h2⟩ := Rel.bind cs G _ (hR.dropped hd hs hk hG) (hround _ _ hI)
        refine wp_mono (ih p _ F2 a' w' hB hR2 h2) fun e a1 w1 hp => ?_
        cases e with
        | normal =>
          obtain ⟨F1, hR1, hk1, h1⟩ := hp
          simp only [jump] at h1
          cases hg1 : getAll F1 cs with
          | none => rw [hg1] at h1; exact h1.elim
          | some us =>
            rw [hg1] at h1
            have hus := getAll_slots hR1 cs us hg1
            subst hus
            exact ⟨⟨h1.1, hR1.defers, hR1.size, hk.trans hk1⟩, h1.2⟩
        | exit id =>
          obtain ⟨F1, hR1, hk1, h1⟩ := hp
          exact ⟨F1, hR1, hk.trans hk1, h1⟩
        | ret => exact hp
        | goto _ => exact hp.elim
        | panic _ => exact hp.elim
        | outgrown => exact hp.elim
    | leaf => exact h.elim
    | one _ => exact h.elim
    | two _ _ => exact h.elim
    | join _ _ _ => exact h.elim
    | draw _ => exact h.elim
    | drawL _ _ => exact h.elim
    | drawT _ => exact h.elim
    | drawTL _ _ => exact h.elim
  | rangeFunc f ps as b ih1 ih2 => exact fun p Q F a w _ _ h => by cases p <;> exact h.elim
  | scope b ih => exact fun p Q F a w _ _ h => by cases p <;> exact h.elim
  | label l => exact fun p Q F a w _ _ h => by cases p <;> exact h.elim
  | goto l => exact fun p Q F a w _ _ h => by cases p <;> exact h.elim
  | refuse why => exact fun p Q F a w _ _ h => by cases p <;> exact h.elim

def argF : Nat → List Value → Fr
  | _, [] => []
  | i, v :: r => (i, v) :: argF (i + 1) r

def retVals (P : Program) : List ResultVar → Fr → (List Value → Prop) → World → Prop
  | [], _, K, _ => K []
  | .tmp t :: r, F, K, w => match getO F t with
    | some v => retVals P r F (fun vs => K (v :: vs)) w
    | none => False
  | .cell t ty :: r, F, K, w => match getO F t with
    | some v => ∃ x, (do loadVar ty (← asAddr v) : Sem Value).run P w = .ok x w ∧ retVals P r F (fun vs => K (x :: vs)) w
    | none => False
def one (vs : List Value) : Value := match vs with
  | [v] => v
  | vs => .tuple vs.toArray
def retQ (P : Program) (rs : Array ResultVar) (R : Value → World → Prop) : Exit → Fr → World → Prop
  | .normal, F, w => retVals P rs.toList F (fun vs => R (one vs) w) w
  | .ret, F, w => retVals P rs.toList F (fun vs => R (one vs) w) w
  | _, _, _ => False

theorem retVals_sound {P : Program} {n : Nat} {a : Act} {F : Fr} {w : World} (hR : Rel n a F) : ∀ (rs : List ResultVar) (K : List Value → Prop), retVals P rs F K w →
    ∃ vs, (rs.mapM (fun | .tmp t => pure (a.tmps.getD t undef) | .cell x t => do loadVar t (← asAddr (a.tmps.getD x undef)) : ResultVar → Sem Value)).run P w = .ok vs w ∧ K vs
  | [], K, h => ⟨[], by simp, h⟩
  | .tmp t :: r, K, h => by
    simp only [retVals] at h
    cases hv : getO F t with
    | none => rw [hv] at h; exact h.elim
    | some v =>
      rw [hv] at h
      obtain ⟨vs, h1, h2⟩ := retVals_sound hR r _ h
      refine ⟨v :: vs, ?_, h2⟩
      rw [List.mapM_cons]
      simp only [Sem.run_bind, Sem.run_pure, Result.andThen_ok, h1, hR.slot t v hv]
  | .cell t ty :: r, K, h => by
    simp only [retVals] at h
    cases hv : getO F t with
    | none => rw [hv] at h; exact h.elim
    | some v =>
      rw [hv] at h
      obtain ⟨x, hx, h⟩ := h
      obtain ⟨vs, h1, h2⟩ := retVals_sound hR r _ h
      refine ⟨x :: vs, ?_, h2⟩
      rw [List.mapM_cons]
      have hx' := hx
      rw [← hR.slot t v hv] at hx'
      rw [Sem.run_bind, hx']
      simp only [Result.andThen_ok, Sem.run_bind, Sem.run_pure, h1]

theorem results_fin {P : Program} {w : World} {m : Sem (List Value)} {vs : List Value} (h : m.run P w = .ok vs w) :
    ((Sem.run P (List.toArray <$> m) w).andThen fun a w' => Result.ok (if h : a.size = 1 then a[0] else Value.tuple a) w') = Result.ok (one vs) w := by
  rw [map_eq_pure_bind, Sem.run_bind, h]
  simp only [Result.andThen_ok, Sem.run_pure, Result.ok.injEq, and_true]
  match vs with
  | [] => rfl
  | [v] => rfl
  | v :: u :: r => simp [one]

theorem results_sound {P : Program} {n : Nat} {a : Act} {F : Fr} {w : World} {fn : Func} {R : Value → World → Prop} (hR : Rel n a F) (h : retVals P fn.results.toList F (fun vs => R (one vs) w) w) :
    ∃ v, (results fn a.tmps).run P w = .ok v w ∧ R v w := by
  obtain ⟨vs, h1, h2⟩ := retVals_sound hR _ _ h
  refine ⟨one vs, ?_, h2⟩
  unfold results
  rw [Array.mapM_eq_mapM_toList]
  simp only [Sem.run_bind, Sem.run_pure]
  exact results_fin h1

theorem argF_get : ∀ (args : List Value) (i t : Nat) (v : Value), getO (argF i args) t = some v → i ≤ t ∧ args[t - i]? = some v
  | [], i, t, v, h => by simp [argF, getO] at h
  | u :: r, i, t, v, h => by
    simp only [argF, getO] at h
    cases hb : Nat.beq i t with
    | true =>
      rw [hb] at h
      have : i = t := Nat.eq_of_beq_eq_true hb
      subst this
      exact ⟨Nat.le_refl _, by simpa using h⟩
    | false =>
      rw [hb] at h
      obtain ⟨h1, h2⟩ := argF_get r (i + 1) t v h
      refine ⟨by omega, ?_⟩
      rw [show t - i = (t - (i + 1)) + 1 by omega]
      simpa using h2

/-- A call's contract out of its shallow text. -/
theorem calls_of_tr {P : Program} {f : FuncId} {fn : Func} {c : Code} {n : Nat} (p : Plan) (hf : P.funcs[f]? = some fn) (hb : fn.body = some c) (hn : fn.ntmps = n) (hm : P.follows .mixedOrders = true) (hok : okB P n c p = true)
    (args : List Value) (ha : Nat.ble args.length n = true) {R : Value → World → Prop} {w : World} (h : tr P n c p (retQ P fn.results R) (argF 0 args) w) :
    Calls P f args.toArray w fun e w' => ∃ v, e = .returned v ∧ R v w' := by
  have hle := Nat.le_of_ble_eq_true ha
  refine calls_of_wp hf hb ?_
  refine wp_mono (tr_sound hm c p _ (argF 0 args) _ w hok ⟨rfl, ?_, fun t v hv => ?_⟩ h) fun e a' w' hp => ?_
  · simp [hn]; omega
  · obtain ⟨_, h1⟩ := argF_get args 0 t v hv
    simp only [Nat.sub_zero] at h1
    have hlt : t < args.length := (List.getElem?_eq_some_iff.1 h1).1
    simp only [Array.getD_eq_getD_getElem?]
    rw [Array.getElem?_append_left (by simpa using hlt)]
    simp [h1]
  · cases e with
    | normal =>
      obtain ⟨F, hR, _, hq⟩ := hp
      obtain ⟨v, hr, hv⟩ := results_sound hR hq
      exact ⟨hR.defers, v, hr, v, rfl, hv⟩
    | ret =>
      obtain ⟨F, hR, hq⟩ := hp
      obtain ⟨v, hr, hv⟩ := results_sound hR hq
      exact ⟨hR.defers, v, hr, v, rfl, hv⟩
    | exit id => obtain ⟨F, _, _, hq⟩ := hp; exact hq.elim
    | goto _ => exact hp.elim
    | panic _ => exact hp.elim
    | outgrown => exact hp.elim

end Go.Proofs.YtmnaggdhkggjhaaGreatDoor.E
namespace Go.Proofs.YtmnaggdhkggjhaaGreatDoor.E
open Go

def bodyOf (fn : Func) : Code := fn.body.getD .skip
theorem of_eq_ {p q : Prop} (h : p = q) (hq : q) : p := h ▸ hq
/-- A result that lies in memory. -/
def RetC (P : Program) (v : Value) (t : TypeId) (K : Value → Prop) (w : World) : Prop :=
  ∃ x, (do loadVar t (← asAddr v) : Sem Value).run P w = .ok x w ∧ K x

end Go.Proofs.YtmnaggdhkggjhaaGreatDoor.E
