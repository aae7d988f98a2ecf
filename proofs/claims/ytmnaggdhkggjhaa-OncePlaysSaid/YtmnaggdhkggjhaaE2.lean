/-
  E2: what a shallow text says, the call does.
-/
import Derived.Test.YtmnaggdhkggjhaaE1
namespace Go.Proofs.Ytmnaggdhkggjhaa.E
open Go

structure Rel (n : Nat) (a : Act) (F : Fr) : Prop where
  defers : a.defers = []
  size : a.tmps.size = n
  slot : ∀ t v, getO F t = some v → a.tmps.getD t undef = v

def Keep (ds : List Nat) (a a' : Act) : Prop := ∀ t, t ∉ ds → a'.tmps.getD t undef = a.tmps.getD t undef
theorem Keep.refl (ds : List Nat) (a : Act) : Keep ds a a := fun _ _ => rfl
theorem Keep.trans {ds : List Nat} {a b c : Act} (h : Keep ds a b) (k : Keep ds b c) : Keep ds a c := fun t ht => (k t ht).trans (h t ht)
theorem Keep.mono {ds es : List Nat} {a b : Act} (h : Keep ds a b) (hs : ∀ t, t ∈ ds → t ∈ es) : Keep es a b := fun t ht => h t (fun hd => ht (hs t hd))

theorem getD_put (a : Act) (d : Nat) (v : Value) (t : Nat) (hd : d < a.tmps.size) : (a.put (some d) v).tmps.getD t undef = if d = t then v else a.tmps.getD t undef := by
  simp only [Act.put]
  by_cases h : d = t
  · subst h; simp [hd]
  · simp [Array.getElem?_setIfInBounds_ne h, h]

theorem Rel.put {n : Nat} {a : Act} {F : Fr} (h : Rel n a F) {o : Oper} (hd : fitsB n o = true) (v : Value) : Rel n (a.put o.dst v) (put F o.dst v) := by
  cases ho : o.dst with
  | none => simpa [Act.put, E.put] using h
  | some d =>
    have hlt : d < a.tmps.size := by
      rw [h.size]
      simpa [fitsB, ho, Nat.blt_eq] using hd
    refine ⟨by simpa [Act.put] using h.defers, by simpa [Act.put] using h.size, fun t u hu => ?_⟩
    rw [getD_put a d v t hlt]
    simp only [E.put, getO] at hu
    by_cases hdt : d = t
    · subst hdt
      simp at hu
      simpa using hu
    · have : Nat.beq d t = false := by rw [← Bool.not_eq_true, Nat.beq_eq]; exact hdt
      rw [this] at hu
      rw [if_neg hdt]
      exact h.slot t u hu

theorem Keep.put {ds : List Nat} {n : Nat} {a0 a : Act} {F : Fr} (hR : Rel n a F) (h : Keep ds a0 a) {o : Oper} (hf : fitsB n o = true) (hd : ∀ d, o.dst = some d → d ∈ ds) (v : Value) : Keep ds a0 (a.put o.dst v) := by
  cases ho : o.dst with
  | none => simpa [Act.put] using h
  | some d =>
    have hlt : d < a.tmps.size := by
      rw [hR.size]
      simpa [fitsB, ho, Nat.blt_eq] using hf
    intro t ht
    rw [getD_put a d v t hlt, if_neg (fun e : d = t => ht (e ▸ hd d ho))]
    exact h t ht

theorem Rel.evalx {n : Nat} {a : Act} {F : Fr} (h : Rel n a F) {x : Operand} (hk : (evO F x).isSome = true) : a.eval x = ev F x := by
  cases x with
  | tmp t =>
    simp only [evO] at hk
    obtain ⟨v, hv⟩ := Option.isSome_iff_exists.1 hk
    simp only [Act.eval, ev, evO, hv, Option.getD_some]
    exact h.slot t v hv
  | const v => rfl
  | global g => rfl
  | func f => rfl

theorem Rel.evalxs {n : Nat} {a : Act} {F : Fr} (h : Rel n a F) {op : Op} (hk : knownB F op = true) : ∃ l, opnds op = some l ∧ ∀ x ∈ l, a.eval x = ev F x := by
  unfold knownB at hk
  cases ho : opnds op with
  | none => rw [ho] at hk; cases hk
  | some l =>
    rw [ho] at hk
    exact ⟨l, rfl, fun x hx => h.evalx (List.all_eq_true.1 hk x hx)⟩

theorem mapA_eq {α β : Type} (f g : α → β) (xs : Array α) (h : ∀ x ∈ xs.toList, f x = g x) : xs.map f = mapA g xs := by
  apply Array.toList_inj.1
  simp only [mapA, Array.toList_map]
  exact List.map_congr_left h

/-! ### the operations -/
section
variable {P : Program} {o : Oper} {a : Act} {K : Act → World → Prop} {Q : Exit → Act → World → Prop} {w : World} {Kv : Value → World → Prop}

theorem upon_lift {m : Sem Value} (h : LiftP P m Kv w) (hK : ∀ v w', Kv v w' → K (a.put o.dst v) w') : o.upon P a K Q ((do pure (Next.value (← m)) : Sem Next).run P w) := by
  obtain ⟨v, w', hr, hk⟩ := h.out
  simp only [Sem.run_bind, hr, Result.andThen_ok, Sem.run_pure, Oper.upon]
  exact hK _ _ hk
theorem upon_liftU {m : Sem Unit} (h : LiftU P m Kv w) (hK : ∀ v w', Kv v w' → K (a.put o.dst v) w') : o.upon P a K Q ((do m; pure Next.skip : Sem Next).run P w) := by
  obtain ⟨w', hr, hk⟩ := h.out
  simp only [Sem.run_bind, hr, Result.andThen_ok, Sem.run_pure, Oper.upon]
  exact hK _ _ hk
theorem upon_next {m : Sem Next} (h : NextP P m Kv w) (hK : ∀ v w', Kv v w' → K (a.put o.dst v) w') : o.upon P a K Q (m.run P w) := by
  replace h := h.out
  unfold NextB at h
  split at h
  · rename_i v w' hr; rw [hr]; exact hK _ _ h
  · rename_i w' hr; rw [hr]; exact hK _ _ h
  · rename_i f args w' hr
    rw [hr]
    simp only [Oper.upon]
    exact Calls.mono h.out fun e w'' ⟨v, he, hv⟩ => by subst he; exact hK _ _ hv
  · exact h.elim
theorem upon_call {f : FuncId} {args : Array Value} (hc : callable P f = true) (h : CallP P f args Kv w) (hK : ∀ v w', Kv v w' → K (a.put o.dst v) w') : o.upon P a K Q ((callFunc f args).run P w) := by
  unfold callable at hc
  split at hc
  · rename_i fn hfn
    simp only [Bool.and_eq_true, Bool.not_eq_true'] at hc
    have hr : (callFunc f args).run P w = .ok (.enter f args) w := by
      have hb : fn.body.isNone = false := by
        cases hh : fn.body with
        | none => rw [hh] at hc; simp at hc
        | some c => rfl
      unfold callFunc
      simp only [Sem.run_bind, run_program, Result.andThen_ok, hfn]
      rw [if_neg (by rw [hc.2]; exact Bool.false_ne_true), if_neg (by rw [hb]; exact Bool.false_ne_true)]
      rfl
    rw [hr]
    simp only [Oper.upon]
    exact Calls.mono h.out fun e w'' ⟨v, he, hv⟩ => by subst he; exact hK _ _ hv
  · cases hc

theorem run_ofValue_func (f : FuncId) (args : Array Value) : Deferred.ofValue (.func (.func f) #[] #[]) args = pure { target := .fn (.func f) #[], args := #[] ++ args } := rfl
end


section
variable {P : Program} {n : Nat} {a : Act} {F : Fr} {K : Act → World → Prop} {Q : Exit → Act → World → Prop} {w : World} {Kv : Value → World → Prop}

theorem semOf_exec {op : Op} {dst : Option Tmp} {ty : TypeId} {pos : String} {after : Array Edge} {g : Option (Nat × Bool)} (hR : Rel n a F) (hk : knownB F op = true) {m : Sem Value} (h : semOf op ty (ev F) = some m) :
    execOp a.eval { dst, op, type := ty, pos, after, guard := g } = (do pure (Next.value (← m))) := by
  obtain ⟨l, hl, he⟩ := hR.evalxs hk
  cases op <;> simp only [semOf, Option.some.injEq, reduceCtorEq] at h <;> simp only [opnds, Option.some.injEq] at hl <;> subst h <;> subst hl
  case alloc => rfl
  case build t ps =>
    show (do pure (Next.value (← Instr.build t (ps.map fun (p : Nat × Operand) => (p.1, a.eval p.2))))) = _
    rw [mapA_eq (fun p => (p.1, a.eval p.2)) (fun p => (p.1, ev F p.2)) ps (fun p hp => by
      simp only [Prod.mk.injEq, true_and]
      exact he p.2 (List.mem_map.2 ⟨p, hp, rfl⟩))]
  case buildSlice t k ps =>
    show (do pure (Next.value (← Instr.buildSlice t k (ps.map fun (p : Nat × Operand) => (p.1, a.eval p.2))))) = _
    rw [mapA_eq (fun p => (p.1, a.eval p.2)) (fun p => (p.1, ev F p.2)) ps (fun p hp => by
      simp only [Prod.mk.injEq, true_and]
      exact he p.2 (List.mem_map.2 ⟨p, hp, rfl⟩))]
  case makeFunc fn f c =>
    show (do pure (Next.value (← Instr.makeFunc fn (f.map a.eval) (c.map a.eval)))) = _
    rw [mapA_eq a.eval (ev F) f (fun x hx => he x (List.mem_append_left _ hx)), mapA_eq a.eval (ev F) c (fun x hx => he x (List.mem_append_right _ hx))]
  case makeMap t r =>
    show (do pure (Next.value (← Instr.makeMap t (r.map a.eval)))) = _
    have : r.map a.eval = r.map (ev F) := by cases r with
      | none => rfl
      | some x => simp [he x (by simp)]
    rw [this]
  case slice t x lo hi mx =>
    show (do pure (Next.value (← Instr.sliceAt t (a.eval x) (lo.map a.eval) (hi.map a.eval) (mx.map a.eval)))) = _
    have h1 : lo.map a.eval = lo.map (ev F) := by cases lo with
      | none => rfl
      | some y => simp [he y (by simp)]
    have h2 : hi.map a.eval = hi.map (ev F) := by cases hi with
      | none => rfl
      | some y => simp [he y (by simp)]
    have h3 : mx.map a.eval = mx.map (ev F) := by cases mx with
      | none => rfl
      | some y => simp [he y (by simp)]
    rw [h1, h2, h3, he x (by simp)]
  all_goals (simp only [execOp]; simp only [List.mem_cons, List.not_mem_nil, or_false, forall_eq_or_imp, forall_eq] at he; (try simp only [he]); (try rfl))

theorem semU_exec {op : Op} {dst : Option Tmp} {ty : TypeId} {pos : String} {after : Array Edge} {g : Option (Nat × Bool)} (hR : Rel n a F) (hk : knownB F op = true) {m : Sem Unit} (h : semU op (ev F) = some m) :
    execOp a.eval { dst, op, type := ty, pos, after, guard := g } = (do m; pure Next.skip) := by
  obtain ⟨l, hl, he⟩ := hR.evalxs hk
  cases op <;> simp only [semU, Option.some.injEq, reduceCtorEq] at h <;> simp only [opnds, Option.some.injEq] at hl <;> subst h <;> subst hl
  all_goals (simp only [execOp]; simp only [List.mem_cons, List.not_mem_nil, or_false, forall_eq_or_imp, forall_eq] at he; (try simp only [he]); (try rfl))

theorem nilChk_exec {x : Operand} {dst : Option Tmp} {ty : TypeId} {pos : String} {after : Array Edge} {g : Option (Nat × Bool)} (hR : Rel n a F) (hk : knownB F (.nilCheck x) = true) :
    execOp a.eval { dst, op := .nilCheck x, type := ty, pos, after, guard := g } = nilChk (ev F x) := by
  obtain ⟨l, hl, he⟩ := hR.evalxs hk
  simp only [opnds, Option.some.injEq] at hl
  subst hl
  show nilChk (a.eval x) = _
  rw [he x (by simp)]

theorem builtin_exec {b : Builtin} {args : Array Operand} {ats : Array TypeId} {dst : Option Tmp} {ty : TypeId} {pos : String} {after : Array Edge} {g : Option (Nat × Bool)} (hR : Rel n a F)
    (hk : knownB F (.call { callee := .builtin b, args, argTypes := ats }) = true) :
    execOp a.eval { dst, op := .call { callee := .builtin b, args, argTypes := ats }, type := ty, pos, after, guard := g } = builtin b ats ty (mapA constB args) (mapA (ev F) args) := by
  obtain ⟨l, hl, he⟩ := hR.evalxs hk
  simp only [opnds, Option.some.injEq] at hl
  subst hl
  show builtin b ats ty (args.map fun | .const _ => true | _ => false) (args.map a.eval) = _
  rw [mapA_eq a.eval (ev F) args (fun x hx => he x (by simp at hx ⊢; exact hx)), mapA_eq _ constB args (fun x _ => by cases x <;> rfl)]

theorem semN_exec {op : Op} {dst : Option Tmp} {ty : TypeId} {pos : String} {after : Array Edge} {g : Option (Nat × Bool)} (hR : Rel n a F) (hk : knownB F op = true) {m : Sem Next} (h : semN op ty (ev F) = some m) :
    execOp a.eval { dst, op, type := ty, pos, after, guard := g } = m := by
  cases op <;> simp only [semN, Option.some.injEq, reduceCtorEq] at h
  case nilCheck x => subst h; exact nilChk_exec hR hk
  case call c =>
    obtain ⟨callee, args, ats⟩ := c
    cases callee with
    | builtin b => simp only [Option.some.injEq] at h; subst h; exact builtin_exec hR hk
    | value f =>
      simp only [Option.some.injEq] at h; subst h
      obtain ⟨l, hl, he⟩ := hR.evalxs hk
      simp only [opnds, Option.some.injEq] at hl
      subst hl
      show (do let d ← Deferred.ofValue (a.eval f) (args.map a.eval); invoke d.target d.args) = callV (ev F f) (mapA (ev F) args)
      rw [he f (by simp), mapA_eq a.eval (ev F) args (fun x hx => he x (by simp at hx ⊢; exact .inr hx))]
      rfl
    | invoke r name =>
      simp only [Option.some.injEq] at h; subst h
      obtain ⟨l, hl, he⟩ := hR.evalxs hk
      simp only [opnds, Option.some.injEq] at hl
      subst hl
      show (invoke (.fn (.method name) #[]) (#[a.eval r] ++ args.map a.eval)) = _
      rw [he r (by simp), mapA_eq a.eval (ev F) args (fun x hx => he x (by simp at hx ⊢; exact .inr hx))]

theorem exec_call {f : FuncId} {args : Array Operand} {ats : Array TypeId} {dst : Option Tmp} {ty : TypeId} {pos : String} {after : Array Edge} {g : Option (Nat × Bool)} (hR : Rel n a F)
    (hk : knownB F (.call { callee := .value (.func f), args, argTypes := ats }) = true) :
    execOp a.eval { dst, op := .call { callee := .value (.func f), args, argTypes := ats }, type := ty, pos, after, guard := g } = callFunc f (mapA (ev F) args) := by
  obtain ⟨l, hl, he⟩ := hR.evalxs hk
  simp only [opnds, Option.some.injEq] at hl
  subst hl
  show callFunc f (#[] ++ args.map a.eval ++ #[]) = _
  rw [mapA_eq a.eval (ev F) args (fun x hx => he x (by simp at hx ⊢; exact .inr hx))]
  simp

theorem trAct_sound {o : Oper} (hk : knownB F o.op = true) (hR : Rel n a F) (hop : opB P n o = true) (h : trAct P o.op o.type F Kv w) (hK : ∀ v w', Kv v w' → K (a.put o.dst v) w') : o.wp P a w K Q := by
  unfold Oper.wp
  have gen : ∀ op, o.op = op → (match semOf op o.type (ev F) with
      | some m => LiftP P m Kv w
      | none => match semU op (ev F) with
        | some m => LiftU P m Kv w
        | none => match semN op o.type (ev F) with
          | some m => NextP P m Kv w
          | none => False) → o.upon P a K Q ((execOp a.eval o).run P w) := by
    intro op ho h
    obtain ⟨dst, op', type, pos, after, guard⟩ := o
    simp only at ho
    subst ho
    split at h
    · rename_i m hm
      rw [semOf_exec hR hk hm]
      exact upon_lift h hK
    · split at h
      · rename_i m hm
        rw [semU_exec hR hk hm]
        exact upon_liftU h hK
      · split at h
        · rename_i m hm
          rw [semN_exec hR hk hm]
          exact upon_next h hK
        · exact h.elim
  unfold trAct at h
  split at h
  · rename_i x hx
    obtain ⟨dst, op', type, pos, after, guard⟩ := o
    simp only at hx; subst hx
    obtain ⟨l, hl, he⟩ := hR.evalxs hk
    simp only [opnds, Option.some.injEq] at hl; subst hl
    show Oper.upon P _ a K Q ((pure (Next.value (a.eval x)) : Sem Next).run P w)
    rw [he x (by simp)]
    unfold ev
    split at h
    · rename_i v hv
      rw [hv]
      exact hK _ _ h
    · exact h.elim
  · rename_i x hx
    obtain ⟨dst, op', type, pos, after, guard⟩ := o
    simp only at hx; subst hx
    obtain ⟨l, hl, he⟩ := hR.evalxs hk
    simp only [opnds, Option.some.injEq] at hl; subst hl
    show Oper.upon P _ a K Q ((pure (Next.value (a.eval x)) : Sem Next).run P w)
    rw [he x (by simp)]
    unfold ev
    split at h
    · rename_i v hv
      rw [hv]
      exact hK _ _ h
    · exact h.elim
  · rename_i c x y hx
    obtain ⟨dst, op', type, pos, after, guard⟩ := o
    simp only at hx; subst hx
    obtain ⟨l, hl, he⟩ := hR.evalxs hk
    simp only [opnds, Option.some.injEq] at hl; subst hl
    obtain ⟨b, hb, h⟩ := h.out
    show Oper.upon P _ a K Q ((do pure (Next.value (if ← asBool (a.eval c) then a.eval x else a.eval y)) : Sem Next).run P w)
    rw [he c (by simp), he x (by simp), he y (by simp), hb]
    have := hK _ _ h
    cases b <;> simpa [asBool, Sem.run_bind, Oper.upon] using this
  · rename_i f args ats hx
    obtain ⟨dst, op', type, pos, after, guard⟩ := o
    simp only at hx; subst hx
    rw [exec_call hR hk]
    exact upon_call (by simpa [opB] using (Bool.and_eq_true _ _ ▸ hop).2) h hK
  · exact gen _ rfl h
end

end Go.Proofs.Ytmnaggdhkggjhaa.E
