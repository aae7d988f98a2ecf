import Derived.Orders
import Derived.OrdersHeld
import Derived.Calls
import Derived.Tactics
import Derived.KernelRfl
namespace Go.Proofs.Ythicbfopjakiiaa.E
open Go

structure LiftP (P : Program) (m : Sem Value) (K : Value → World → Prop) (w : World) : Prop where
  mk :: (out : ∃ v w', m.run P w = .ok v w' ∧ K v w')
structure LiftU (P : Program) (m : Sem Unit) (K : Value → World → Prop) (w : World) : Prop where
  mk :: (out : ∃ w', m.run P w = .ok () w' ∧ K undef w')
structure CallP (P : Program) (f : FuncId) (args : Array Value) (K : Value → World → Prop) (w : World) : Prop where
  mk :: (out : Calls P f args w fun e w' => ∃ v, e = .returned v ∧ K v w')
def NextB (P : Program) (K : Value → World → Prop) (r : Result Next) : Prop := match r with
  | .ok (.value v) w' => K v w'
  | .ok .skip w' => K undef w'
  | .ok (.enter f args) w' => CallP P f args K w'
  | _ => False
structure NextP (P : Program) (m : Sem Next) (K : Value → World → Prop) (w : World) : Prop where
  mk :: (out : NextB P K (m.run P w))
structure PickP (c x y : Value) (K : Value → World → Prop) (w : World) : Prop where
  mk :: (out : ∃ b, c = .bool b ∧ K (if b then x else y) w)
structure GuardP (v : Value) (want : Bool) (X : (Value → World → Prop) → World → Prop) (K : Value → World → Prop) (w : World) : Prop where
  mk :: (yes : v = .bool want → X K w) (no : v ≠ .bool want → K undef w)
structure CondP (v : Value) (X Y : World → Prop) (w : World) : Prop where
  mk :: (out : ∃ b, v = .bool b ∧ (b = true → X w) ∧ (b = false → Y w))
structure JoinP (X : (List Value → World → Prop) → World → Prop) (Y : List Value → World → Prop) (w : World) : Prop where
  mk :: (out : X Y w)
structure LoopP (body : (List Value → World → Prop) → List Value → World → Prop) (vs : List Value) (w : World) : Prop where
  mk :: (out : ∃ (I : List Value → World → Prop) (μ : List Value → World → Nat), I vs w ∧
    ∀ xs w', I xs w' → body (fun ys w'' => I ys w'' ∧ μ ys w'' < μ xs w') xs w')
/-- A region that draws: S holds behind each operation that acts; what is read is read the same in every world that meets S. -/
structure DrawP (X : (World → Prop) → World → Prop) (w : World) : Prop where
  mk :: (out : ∃ S : World → Prop, S { w with drawn := w.drawn + 1 } ∧ X S { w with drawn := w.drawn + 1 })
structure YieldP (P : Program) (S : World → Prop) (m : Sem Value) (K : Value → World → Prop) (w : World) : Prop where
  mk :: (out : ∃ v, (∀ w', S w' → m.run P w' = .ok v w') ∧ K v w)
structure YieldN (P : Program) (S : World → Prop) (m : Sem Next) (K : Value → World → Prop) (w : World) : Prop where
  mk :: (out : ∃ v, (∀ w', S w' → m.run P w' = .ok (.value v) w') ∧ K v w)
/-- An operation that acts; behind it a narrower S may be chosen. -/
structure ActP (S : World → Prop) (X : (Value → World → Prop) → World → Prop) (K : (World → Prop) → Value → World → Prop) (w : World) : Prop where
  mk :: (out : X (fun v w' => ∃ S' : World → Prop, S' w' ∧ (∀ w, S' w → S w) ∧ K S' v w') w)
/-- Both must be shown: either may be the order. -/
structure BothP (X Y : World → Prop) (w : World) : Prop where
  mk :: (fst : X w) (snd : Y w)
structure GuardA (v : Value) (want : Bool) (S : World → Prop) (X : (Value → World → Prop) → World → Prop) (K : (World → Prop) → Value → World → Prop) (w : World) : Prop where
  mk :: (yes : v = .bool want → ActP S X K w) (no : v ≠ .bool want → K S undef w)

abbrev Fr := List (Nat × Value)
def getO : Fr → Nat → Option Value
  | [], _ => none
  | (s, v) :: r, t => bif Nat.beq s t then some v else getO r t
def evO (F : Fr) : Operand → Option Value
  | .tmp t => getO F t
  | .const v => some v
  | .global g => some (.pointer (some ⟨g, 0, none⟩))
  | .func f => some (.func (.func f) #[] #[])
def ev (F : Fr) (x : Operand) : Value := (evO F x).getD undef
def put (F : Fr) (dst : Option Tmp) (v : Value) : Fr :=
  match dst with
  | some d => (d, v) :: F
  | none => F
/-- What follows is told with the frame written out: the kernel is to reckon with frames that are lists of values, not of what is still to be reckoned. -/
def putK (dst : Option Tmp) (v : Value) (F : Fr) (k : Fr → Prop) : Prop :=
  match dst with
  | some d => k ((d, v) :: F)
  | none => k F
def bindK : List Nat → List Value → Fr → (Fr → Prop) → Prop
  | [], _, G, k => k G
  | c :: cs, vs, G, k => bindK cs vs.tail ((c, vs.headD undef) :: G) k
def dropK (ds : List Nat) : Fr → Fr → (Fr → Prop) → Prop
  | [], G, k => k G
  | (s, v) :: r, G, k => bif ds.any (Nat.beq s ·) then dropK ds r G k else match getO G s with
    | some _ => dropK ds r G k
    | none => dropK ds r ((s, v) :: G) k
def getAll (F : Fr) : List Nat → Option (List Value)
  | [] => some []
  | c :: cs => match getO F c with
    | some v => match getAll F cs with
      | some vs => some (v :: vs)
      | none => none
    | none => none

/-- The orders of a region that draws: a reader next; an operation that alone may act; several that may (one after the other told, 'done' at the end). -/
inductive DT where
  | done
  | rd (i : Nat) (t : DT)
  | act (i : Nat) (t : DT)
  | alt (i : Nat) (t r : DT)
inductive Plan where
  | leaf
  | one (a : Plan)
  | two (a b : Plan)
  | join (cs : List Nat) (a b : Plan)
  | loop (cs : List Nat) (a : Plan)
  | draw (l : List (Bool × Nat))
  /-- A region that draws, whose last operation s waits for all others: behind s nothing is asked of the world. -/
  | drawL (l : List (Bool × Nat)) (s : Nat)
  | drawT (t : DT)
  /-- Several may act, and the last operation s waits for all others. -/
  | drawTL (t : DT) (s : Nat)

def dsts : Code → List Nat
  | .region _ ops _ => ops.toList.filterMap (·.dst)
  | .seq a b => dsts a ++ dsts b
  | .cond _ a b => dsts a ++ dsts b
  | .block _ a => dsts a
  | .loop a => dsts a
  | _ => []

/-- The operands of the operations that are served; none: not served. -/
def opnds : Op → Option (List Operand)
  | .move x | .assign x | .box _ x | .load _ x | .unOp _ _ x | .convert _ _ x | .makeInterface _ x | .nilCheck x
  | .fieldAddr _ x _ | .field _ x _ | .range _ x | .next x _ | .entry x | .typeAssert x _ _ _ | .extract x _ | .panic x => some [x]
  | .alloc _ => some []
  | .pick c a b => some [c, a, b]
  | .build _ ps | .buildSlice _ _ ps => some (ps.toList.map (·.2))
  | .store _ a v | .binOp _ _ a v _ | .makeSlice _ a v | .indexAddr _ a v | .index _ a v | .lookup _ a v _ | .mapEntry _ a v => some [a, v]
  | .makeFunc _ f c => some (f.toList ++ c.toList)
  | .makeMap _ r => some r.toList
  | .slice _ x l h m => some ([x] ++ l.toList ++ h.toList ++ m.toList)
  | .mapUpdate _ m k v | .entryStore _ m k v => some [m, k, v]
  | .call c => some ((match c.callee with | .value f => [f] | .invoke r _ => [r] | .builtin _ => []) ++ c.args.toList)
  | _ => none

def knownB (F : Fr) (op : Op) : Bool := match opnds op with
  | some l => l.all fun x => (evO F x).isSome
  | none => false

def callable (P : Program) (f : FuncId) : Bool := match P.funcs[f]? with
  | some fn => fn.body.isSome && !(fn.name == "runtime.NumGoroutine")
  | none => false

/-- A call that is no call of a named function. -/
def callV (fv : Value) (args : Array Value) : Sem Next := do let d ← Deferred.ofValue fv args; invoke d.target d.args
def mapA {α β : Type} (f : α → β) (xs : Array α) : Array β := (xs.toList.map f).toArray

def binS (op : BinOp) (t : TypeId) (x y : Operand) (vx vy : Value) : Sem Value := do eqGuard op t x y vx vy; binOp op t vx vy

/-- What an operation does that yields a value. -/
def semOf (op : Op) (ty : TypeId) (ρ : Operand → Value) : Option (Sem Value) := match op with
  | .alloc e => some (Instr.alloc e true (.tuple #[]))
  | .box e x => some (Instr.box e (ρ x))
  | .build t ps => some (Instr.build t (mapA (fun p => (p.1, ρ p.2)) ps))
  | .buildSlice t n ps => some (Instr.buildSlice t n (mapA (fun p => (p.1, ρ p.2)) ps))
  | .load t a => some (Instr.loadAt t (ρ a))
  | .binOp op t x y _ => some (binS op t x y (ρ x) (ρ y))
  | .unOp op _ x => some (Op.unary op (ρ x))
  | .convert s d x => some (convert s d (ρ x))
  | .makeInterface t x => some (Instr.makeInterface t (ρ x))
  | .makeFunc fn f c => some (Instr.makeFunc fn (mapA ρ f) (mapA ρ c))
  | .makeMap t r => some (Instr.makeMap t (r.map ρ))
  | .makeSlice t l c => some (Instr.makeSlice t (ρ l) (ρ c))
  | .slice t x l h m => some (Instr.sliceAt t (ρ x) (l.map ρ) (h.map ρ) (m.map ρ))
  | .fieldAddr s x f => some (Instr.fieldAt s (ρ x) f)
  | .field t x f => some (Instr.field t (ρ x) f)
  | .indexAddr t x i => some (Instr.indexAt t (ρ x) (ρ i))
  | .index t x i => some (Instr.index t (ρ x) (ρ i))
  | .lookup t x i ok => some (Instr.lookup t (ρ x) (ρ i) ok)
  | .mapEntry t m k => some (Instr.mapEntry t (ρ m) (ρ k))
  | .range t x => some (Instr.range t (ρ x))
  | .next it s => some (Instr.next (ρ it) s ty)
  | .entry it => some (Instr.entry (ρ it))
  | .typeAssert x t a ok => some (Instr.typeAssert (ρ x) t a ok)
  | .extract t i => some (Instr.extract (ρ t) i)
  | .panic x => some (Instr.panic (ρ x))
  | _ => none
def semU (op : Op) (ρ : Operand → Value) : Option (Sem Unit) := match op with
  | .store t a x => some (Instr.storeAt t (ρ a) (ρ x))
  | .mapUpdate t m k x => some (Instr.mapUpdate t (ρ m) (ρ k) (ρ x))
  | .entryStore t m s x => some (Instr.entryStore t (ρ m) (ρ s) (ρ x))
  | _ => none
/-- The rest: nil checks, built-ins, calls of values and through interfaces. -/
def nilChk (x : Value) : Sem Next := execOp (fun _ => x) { dst := none, op := .nilCheck (.const x), type := 0, pos := "", after := #[], guard := none }
def constB : Operand → Bool
  | .const _ => true
  | _ => false
def semN (op : Op) (ty : TypeId) (ρ : Operand → Value) : Option (Sem Next) := match op with
  | .nilCheck x => some (nilChk (ρ x))
  | .call { callee := .builtin b, args, argTypes } => some (builtin b argTypes ty (mapA constB args) (mapA ρ args))
  | .call { callee := .value f, args, .. } => some (callV (ρ f) (mapA ρ args))
  | .call { callee := .invoke r name, args, .. } => some (invoke (.fn (.method name) #[]) (#[ρ r] ++ mapA ρ args))
  | _ => none

/-- An operation, its guard apart. -/
def trAct (P : Program) (op : Op) (ty : TypeId) (F : Fr) (K : Value → World → Prop) (w : World) : Prop := match op with
  | .move x | .assign x => match evO F x with
    | some v => K v w
    | none => False
  | .pick c a b => PickP (ev F c) (ev F a) (ev F b) K w
  | .call { callee := .value (.func f), args, .. } => CallP P f (mapA (ev F) args) K w
  | op => match semOf op ty (ev F) with
    | some m => LiftP P m K w
    | none => match semU op (ev F) with
      | some m => LiftU P m K w
      | none => match semN op ty (ev F) with
        | some m => NextP P m K w
        | none => False
/-- A reader in a region that draws. -/
def trRead (P : Program) (S : World → Prop) (op : Op) (ty : TypeId) (F : Fr) (K : Value → World → Prop) (w : World) : Prop := match op with
  | .move x | .assign x => match evO F x with
    | some v => K v w
    | none => False
  | .pick c a b => PickP (ev F c) (ev F a) (ev F b) K w
  | .nilCheck x => YieldN P S (nilChk (ev F x)) K w
  | .call { callee := .builtin b, args, argTypes } => YieldN P S (builtin b argTypes ty (mapA constB args) (mapA (ev F) args)) K w
  | op => match semOf op ty (ev F) with
    | some m => YieldP P S m K w
    | none => False

/-- What a guard asks: the slot, the answer. -/
def guardOf (ops : List Oper) (g : Option (Nat × Bool)) : Option (Option Nat × Bool) := match g with
  | none => none
  | some (j, b) => some ((ops[j]?).bind (·.dst), b)

def guarded (ops : List Oper) (g : Option (Nat × Bool)) (F : Fr) (X : (Value → World → Prop) → World → Prop) (K : Value → World → Prop) (w : World) : Prop :=
  match guardOf ops g with
  | none => X K w
  | some (some d, b) => match getO F d with
    | some v => GuardP v b X K w
    | none => False
  | some (none, _) => False

def guardedA (ops : List Oper) (g : Option (Nat × Bool)) (F : Fr) (S : World → Prop) (X : (Value → World → Prop) → World → Prop) (K : (World → Prop) → Value → World → Prop) (w : World) : Prop :=
  match guardOf ops g with
  | none => ActP S X K w
  | some (some d, b) => match getO F d with
    | some v => GuardA v b S X K w
    | none => False
  | some (none, _) => False

def trOps (P : Program) (n : Nat) (ops : List Oper) : List Oper → (Fr → World → Prop) → Fr → World → Prop
  | [], K, F, w => K F w
  | o :: r, K, F, w => bif knownB F o.op then
      guarded ops o.guard F (trAct P o.op o.type F) (fun v w => putK o.dst v F fun F => trOps P n ops r K F w) w
    else False

def trDraw (P : Program) (n : Nat) (ops : List Oper) : List (Bool × Nat) → (World → Prop) → (Fr → World → Prop) → Fr → World → Prop
  | [], _, K, F, w => K F w
  | (rd, i) :: r, S, K, F, w => match ops[i]? with
    | none => False
    | some o => bif knownB F o.op then
        bif rd then guarded ops o.guard F (trRead P S o.op o.type F) (fun v w => putK o.dst v F fun F => trDraw P n ops r S K F w) w
        else guardedA ops o.guard F S (trAct P o.op o.type F) (fun S v w => putK o.dst v F fun F => trDraw P n ops r S K F w) w
      else False

def trDT (P : Program) (n : Nat) (ops : List Oper) : Bool → DT → (World → Prop) → (Fr → World → Prop) → Fr → World → Prop
  | false, .done, _, K, F, w => K F w
  | true, .done, _, _, _, _ => True
  | _, .rd i t, S, K, F, w => match ops[i]? with
    | none => False
    | some o => bif knownB F o.op then guarded ops o.guard F (trRead P S o.op o.type F) (fun v w => putK o.dst v F fun F => trDT P n ops false t S K F w) w else False
  | _, .act i t, S, K, F, w => match ops[i]? with
    | none => False
    | some o => bif knownB F o.op then guardedA ops o.guard F S (trAct P o.op o.type F) (fun S v w => putK o.dst v F fun F => trDT P n ops false t S K F w) w else False
  | _, .alt i t r, S, K, F, w => match ops[i]? with
    | none => False
    | some o => bif knownB F o.op then BothP (fun w => guardedA ops o.guard F S (trAct P o.op o.type F) (fun S v w => putK o.dst v F fun F => trDT P n ops false t S K F w) w) (fun w => trDT P n ops true r S K F w) w else False

def jump (J : List Value → World → Prop) (cs : List Nat) (F : Fr) (w : World) : Prop := match getAll F cs with
  | some vs => J vs w
  | none => False

def tr (P : Program) (n : Nat) : Code → Plan → (Exit → Fr → World → Prop) → Fr → World → Prop
  | .skip, _, Q, F, w => Q .normal F w
  | .ret, _, Q, F, w => Q .ret F w
  | .exit id, _, Q, F, w => Q (.exit id) F w
  | .region _ ops false, _, Q, F, w => trOps P n ops.toList ops.toList (Q .normal) F w
  | .region _ ops true, .draw l, Q, F, w => DrawP (fun S w => trDraw P n ops.toList l S (Q .normal) F w) w
  | .region _ ops true, .drawL l s, Q, F, w => DrawP (fun S w => trDraw P n ops.toList l S (fun F w => match ops[s]? with
      | some o => trOps P n ops.toList [o] (Q .normal) F w
      | none => False) F w) w
  | .region _ ops true, .drawT t, Q, F, w => DrawP (fun S w => trDT P n ops.toList false t S (Q .normal) F w) w
  | .region _ ops true, .drawTL t s, Q, F, w => DrawP (fun S w => trDT P n ops.toList false t S (fun F w => match ops[s]? with
      | some o => trOps P n ops.toList [o] (Q .normal) F w
      | none => False) F w) w
  | .seq a b, .two p q, Q, F, w => tr P n a p (fun e F w => match e with
      | .normal => tr P n b q Q F w
      | e => Q e F w) F w
  | .seq a b, .join cs p q, Q, F, w => dropK (dsts a) F [] fun G => JoinP (fun J w => tr P n a p (fun e F w => match e with
      | .normal => jump J cs F w
      | e => Q e F w) F w) (fun vs w => bindK cs vs G fun F => tr P n b q Q F w) w
  | .cond c a b, .two p q, Q, F, w => match evO F c with
    | some v => CondP v (fun w => tr P n a p Q F w) (fun w => tr P n b q Q F w) w
    | none => False
  | .block id a, .one p, Q, F, w => tr P n a p (fun e F w => match e with
      | .exit id' => bif Nat.beq id' id then Q .normal F w else Q (.exit id') F w
      | e => Q e F w) F w
  | .loop a, .loop cs p, Q, F, w => match getAll F cs with
    | some vs => dropK (dsts a) F [] fun G => LoopP (fun J vs w => bindK cs vs G fun F => tr P n a p (fun e F w => match e with
        | .normal => jump J cs F w
        | e => Q e F w) F w) vs w
    | none => False
  | _, _, _, _, _ => False

def fitsB (n : Nat) (o : Oper) : Bool := match o.dst with
  | some d => Nat.blt d n
  | none => true
def opB (P : Program) (n : Nat) (o : Oper) : Bool := fitsB n o && match o.op with
  | .call { callee := .value (.func f), .. } => callable P f
  | _ => true
def drawB (ops : Array Oper) : List (Bool × Nat) → Array Bool → Bool
  | [], listed => (Region.ready .any ops listed).isEmpty
  | (rd, i) :: r, listed => (bif rd then Region.free .any ops listed i && (Region.ready .any ops listed).contains i else decide (Region.ready .any ops listed = [i])) && drawB ops r (listed.setIfInBounds i true)
/-- The same, up to the last operation s. -/
def drawLB (ops : Array Oper) (s : Nat) : List (Bool × Nat) → Array Bool → Bool
  | [], listed => decide (Region.ready .any ops listed = [s]) && (Region.ready .any ops (listed.setIfInBounds s true)).isEmpty
  | (rd, i) :: r, listed => !Nat.beq i s && (bif rd then Region.free .any ops listed i && (Region.ready .any ops listed).contains i else decide (Region.ready .any ops listed = [i])) && drawLB ops s r (listed.setIfInBounds i true)
def directB (ops : Array Oper) (k : Nat) : List Nat := match ops[k]? with
  | some o => (o.after.toList.filter (Region.binds .any)).map (·.on)
  | none => []
def stepB (ops : Array Oper) (l : List Nat) : List Nat := (List.range ops.size).filter fun k => l.any (Nat.beq k) || l.any fun j => (directB ops j).any (Nat.beq k)
def closeB (ops : Array Oper) : Nat → List Nat → List Nat
  | 0, l => l
  | n + 1, l => closeB ops n (stepB ops l)
/-- Operation s waits, through others or not, for all others. -/
def coverB (ops : Array Oper) (s : Nat) : Bool := (List.range ops.size).all fun i => Nat.beq i s || (closeB ops ops.size (directB ops s)).any (Nat.beq i)
def alts : DT → List Nat
  | .alt i _ r => i :: alts r
  | _ => []
def dtLen : DT → Nat
  | .done => 0
  | .rd _ t => dtLen t + 1
  | .act _ t => dtLen t + 1
  | .alt _ t r => max (dtLen t + 1) (dtLen r)
def drawTB (ops : Array Oper) : Bool → DT → Array Bool → Bool
  | false, .done, listed => (Region.ready .any ops listed).isEmpty
  | true, .done, _ => true
  | _, .rd i t, listed => Region.free .any ops listed i && (Region.ready .any ops listed).contains i && drawTB ops false t (listed.setIfInBounds i true)
  | _, .act i t, listed => decide (Region.ready .any ops listed = [i]) && drawTB ops false t (listed.setIfInBounds i true)
  | b, .alt i t r, listed => (Region.ready .any ops listed).contains i && (b || (Region.ready .any ops listed).all fun j => (i :: alts r).any (Nat.beq j)) && (drawTB ops false t (listed.setIfInBounds i true) && drawTB ops true r listed)
def drawTLB (ops : Array Oper) (s : Nat) : Bool → DT → Array Bool → Bool
  | false, .done, listed => decide (Region.ready .any ops listed = [s]) && (Region.ready .any ops (listed.setIfInBounds s true)).isEmpty
  | true, .done, _ => true
  | _, .rd i t, listed => !Nat.beq i s && (Region.free .any ops listed i && (Region.ready .any ops listed).contains i) && drawTLB ops s false t (listed.setIfInBounds i true)
  | _, .act i t, listed => !Nat.beq i s && decide (Region.ready .any ops listed = [i]) && drawTLB ops s false t (listed.setIfInBounds i true)
  | b, .alt i t r, listed => !Nat.beq i s && ((Region.ready .any ops listed).contains i && (b || (Region.ready .any ops listed).all fun j => (i :: alts r).any (Nat.beq j))) && (drawTLB ops s false t (listed.setIfInBounds i true) && drawTLB ops s true r listed)
def okB (P : Program) (n : Nat) : Code → Plan → Bool
  | .region _ ops false, _ => ops.toList.all (opB P n)
  | .region _ ops true, .draw l => ops.toList.all (opB P n) && (Region.noSelect ops && (drawB ops l (Array.replicate ops.size false) && Nat.ble l.length ops.size))
  | .region _ ops true, .drawL l s => ops.toList.all (opB P n) && (Region.noSelect ops && (drawLB ops s l (Array.replicate ops.size false) && (coverB ops s && Nat.ble (l.length + 1) ops.size)))
  | .region _ ops true, .drawT t => ops.toList.all (opB P n) && (Region.noSelect ops && (drawTB ops false t (Array.replicate ops.size false) && Nat.ble (dtLen t) ops.size))
  | .region _ ops true, .drawTL t s => ops.toList.all (opB P n) && (Region.noSelect ops && (drawTLB ops s false t (Array.replicate ops.size false) && (coverB ops s && Nat.ble (dtLen t + 1) ops.size)))
  | .seq a b, .two p q => okB P n a p && okB P n b q
  | .seq a b, .join _ p q => okB P n a p && okB P n b q
  | .cond _ a b, .two p q => okB P n a p && okB P n b q
  | .block _ a, .one p => okB P n a p
  | .loop a, .loop _ p => okB P n a p
  | .region .., _ => false
  | _, _ => true

end Go.Proofs.Ythicbfopjakiiaa.E
namespace Go.Proofs.Ythicbfopjakiiaa.E
open Go

structure Rel (n : Nat) (a : Act) (F : Fr) : Prop where
  defers : a.defers = []
  size : a.tmps.size = n
  slot : ∀ t v, getO F t = some v → a.tmps.getD t undef = v

def Keep (ds : List Nat) (a a' : Act) : Prop := ∀ t, t ∉ ds → a'.tmps.getD t undef = a.tmps.getD t undef
theorem Keep.refl (ds : List Nat) (a : Act) : Keep ds a a := fun _ _ => rfl
theorem Keep.trans {ds : List Nat} {a b c : Act} (h : Keep ds a b) (k : Keep ds b c) : Keep ds a c := fun t ht => (k t ht).trans (h t ht)
theorem Keep.mono {ds es : List Nat} {a b : Act} (h : Keep ds a b) (hs : ∀ t, t ∈ ds → t ∈ es) : Keep es a b := fun t ht => h t (fun hd => ht (hs t hd))

theorem getD_put (a : Act) (d : Nat) (v : Value) (t : Nat) (hd : d < a.tmps.size) : (a.put (some d) v).tmps.getD t undef = if d = t then v else a.tmps.getD t undef := by
  simp only [Act.put]
  by_cases h : d = t
  · subst h; simp [hd]
  · simp [Array.getElem?_setIfInBounds_ne h, h]

theorem Rel.put {n : Nat} {a : Act} {F : Fr} (h : Rel n a F) {o : Oper} (hd : fitsB n o = true) (v : Value) : Rel n (a.put o.dst v) (put F o.dst v) := by
  cases ho : o.dst with
  | none => simpa [Act.put, E.put] using h
  | some d =>
    have hlt : d < a.tmps.size := by
      rw [h.size]
      simpa [fitsB, ho, Nat.blt_eq] using hd
    refine ⟨by simpa [Act.put] using h.defers, by simpa [Act.put] using h.size, fun t u hu => ?_⟩
    rw [getD_put a d v t hlt]
    simp only [E.put, getO] at hu
    by_cases hdt : d = t
    · subst hdt
      simp at hu
      simpa using hu
    · have : Nat.beq d t = false := by rw [← Bool.not_eq_true, Nat.beq_eq]; exact hdt
      rw [this] at hu
      rw [if_neg hdt]
      exact h.slot t u hu

theorem Keep.put {ds : List Nat} {n : Nat} {a0 a : Act} {F : Fr} (hR : Rel n a F) (h : Keep ds a0 a) {o : Oper} (hf : fitsB n o = true) (hd : ∀ d, o.dst = some d → d ∈ ds) (v : Value) : Keep ds a0 (a.put o.dst v) := by
  cases ho : o.dst with
  | none => simpa [Act.put] using h
  | some d =>
    have hlt : d < a.tmps.size := by
      rw [hR.size]
      simpa [fitsB, ho, Nat.blt_eq] using hf
    intro t ht
    rw [getD_put a d v t hlt, if_neg (fun e : d = t => ht (e ▸ hd d ho))]
    exact h t ht

theorem Rel.evalx {n : Nat} {a : Act} {F : Fr} (h : Rel n a F) {x : Operand} (hk : (evO F x).isSome = true) : a.eval x = ev F x := by
  cases x with
  | tmp t =>
    simp only [evO] at hk
    obtain ⟨v, hv⟩ := Option.isSome_iff_exists.1 hk
    simp only [Act.eval, ev, evO, hv, Option.getD_some]
    exact h.slot t v hv
  | const v => rfl
  | global g => rfl
  | func f => rfl

theorem Rel.evalxs {n : Nat} {a : Act} {F : Fr} (h : Rel n a F) {op : Op} (hk : knownB F op = true) : ∃ l, opnds op = some l ∧ ∀ x ∈ l, a.eval x = ev F x := by
  unfold knownB at hk
  cases ho : opnds op with
  | none => rw [ho] at hk; cases hk
  | some l =>
    rw [ho] at hk
    exact ⟨l, rfl, fun x hx => h.evalx (List.all_eq_true.1 hk x hx)⟩

theorem mapA_eq {α β : Type} (f g : α → β) (xs : Array α) (h : ∀ x ∈ xs.toList, f x = g x) : xs.map f = mapA g xs := by
  apply Array.toList_inj.1
  simp only [mapA, Array.toList_map]
  exact List.map_congr_left h

section
variable {P : Program} {o : Oper} {a : Act} {K : Act → World → Prop} {Q : Exit → Act → World → Prop} {w : World} {Kv : Value → World → Prop}

theorem upon_lift {m : Sem Value} (h : LiftP P m Kv w) (hK : ∀ v w', Kv v w' → K (a.put o.dst v) w') : o.upon P a K Q ((do pure (Next.value (← m)) : Sem Next).run P w) := by
  obtain ⟨v, w', hr, hk⟩ := h.out
  simp only [Sem.run_bind, hr, Result.andThen_ok, Sem.run_pure, Oper.upon]
  exact hK _ _ hk
theorem upon_liftU {m : Sem Unit} (h : LiftU P m Kv w) (hK : ∀ v w', Kv v w' → K (a.put o.dst v) w') : o.upon P a K Q ((do m; pure Next.skip : Sem Next).run P w) := by
  obtain ⟨w', hr, hk⟩ := h.out
  simp only [Sem.run_bind, hr, Result.andThen_ok, Sem.run_pure, Oper.upon]
  exact hK _ _ hk
theorem upon_next {m : Sem Next} (h : NextP P m Kv w) (hK : ∀ v w', Kv v w' → K (a.put o.dst v) w') : o.upon P a K Q (m.run P w) := by
  replace h := h.out
  unfold NextB at h
  split at h
  · rename_i v w' hr; rw [hr]; exact hK _ _ h
  · rename_i w' hr; rw [hr]; exact hK _ _ h
  · rename_i f args w' hr
    rw [hr]
    simp only [Oper.upon]
    exact Calls.mono h.out fun e w'' ⟨v, he, hv⟩ => by subst he; exact hK _ _ hv
  · exact h.elim
theorem upon_call {f : FuncId} {args : Array Value} (hc : callable P f = true) (h : CallP P f args Kv w) (hK : ∀ v w', Kv v w' → K (a.put o.dst v) w') : o.upon P a K Q ((callFunc f args).run P w) := by
  unfold callable at hc
  split at hc
  · rename_i fn hfn
    simp only [Bool.and_eq_true, Bool.not_eq_true'] at hc
    have hr : (callFunc f args).run P w = .ok (.enter f args) w := by
      have hb : fn.body.isNone = false := by
        cases hh : fn.body with
        | none => rw [hh] at hc; simp at hc
        | some c => rfl
      unfold callFunc
      simp only [Sem.run_bind, run_program, Result.andThen_ok, hfn]
      rw [if_neg (by rw [hc.2]; exact Bool.false_ne_true), if_neg (by rw [hb]; exact Bool.false_ne_true)]
      rfl
    rw [hr]
    simp only [Oper.upon]
    exact Calls.mono h.out fun e w'' ⟨v, he, hv⟩ => by subst he; exact hK _ _ hv
  · cases hc

end


section
variable {P : Program} {n : Nat} {a : Act} {F : Fr} {K : Act → World → Prop} {Q : Exit → Act → World → Prop} {w : World} {Kv : Value → World → Prop}

theorem semOf_exec {op : Op} {dst : Option Tmp} {ty : TypeId} {pos : String} {after : Array Edge} {g : Option (Nat × Bool)} (hR : Rel n a F) (hk : knownB F op = true) {m : Sem Value} (h : semOf op ty (ev F) = some m) :
    execOp a.eval { dst, op, type := ty, pos, after, guard := g } = (do pure (Next.value (← m))) := by
  obtain ⟨l, hl, he⟩ := hR.evalxs hk
  cases op <;> simp only [semOf, Option.some.injEq, reduceCtorEq] at h <;> simp only [opnds, Option.some.injEq] at hl <;> subst h <;> subst hl
  case alloc => rfl
  case build t ps =>
    show (do pure (Next.value (← Instr.build t (ps.map fun (p : Nat × Operand) => (p.1, a.eval p.2))))) = _
    rw [mapA_eq (fun p => (p.1, a.eval p.2)) (fun p => (p.1, ev F p.2)) ps (fun p hp => by
      simp only [Prod.mk.injEq, true_and]
      exact he p.2 (List.mem_map.2 ⟨p, hp, rfl⟩))]
  case buildSlice t k ps =>
    show (do pure (Next.value (← Instr.buildSlice t k (ps.map fun (p : Nat × Operand) => (p.1, a.eval p.2))))) = _
    rw [mapA_eq (fun p => (p.1, a.eval p.2)) (fun p => (p.1, ev F p.2)) ps (fun p hp => by
      simp only [Prod.mk.injEq, true_and]
      exact he p.2 (List.mem_map.2 ⟨p, hp, rfl⟩))]
  case makeFunc fn f c =>
    show (do pure (Next.value (← Instr.makeFunc fn (f.map a.eval) (c.map a.eval)))) = _
    rw [mapA_eq a.eval (ev F) f (fun x hx => he x (List.mem_append_left _ hx)), mapA_eq a.eval (ev F) c (fun x hx => he x (List.mem_append_right _ hx))]
  case makeMap t r =>
    show (do pure (Next.value (← Instr.makeMap t (r.map a.eval)))) = _
    have : r.map a.eval = r.map (ev F) := by cases r with
      | none => rfl
      | some x => simp [he x (by simp)]
    rw [this]
  case slice t x lo hi mx =>
    show (do pure (Next.value (← Instr.sliceAt t (a.eval x) (lo.map a.eval) (hi.map a.eval) (mx.map a.eval)))) = _
    have h1 : lo.map a.eval = lo.map (ev F) := by cases lo with
      | none => rfl
      | some y => simp [he y (by simp)]
    have h2 : hi.map a.eval = hi.map (ev F) := by cases hi with
      | none => rfl
      | some y => simp [he y (by simp)]
    have h3 : mx.map a.eval = mx.map (ev F) := by cases mx with
      | none => rfl
      | some y => simp [he y (by simp)]
    rw [h1, h2, h3, he x (by simp)]
  all_goals (simp only [execOp]; simp only [List.mem_cons, List.not_mem_nil, or_false, forall_eq_or_imp, forall_eq] at he; (try simp only [he]); (try rfl))

theorem semU_exec {op : Op} {dst : Option Tmp} {ty : TypeId} {pos : String} {after : Array Edge} {g : Option (Nat × Bool)} (hR : Rel n a F) (hk : knownB F op = true) {m : Sem Unit} (h : semU op (ev F) = some m) :
    execOp a.eval { dst, op, type := ty, pos, after, guard := g } = (do m; pure Next.skip) := by
  obtain ⟨l, hl, he⟩ := hR.evalxs hk
  cases op <;> simp only [semU, Option.some.injEq, reduceCtorEq] at h <;> simp only [opnds, Option.some.injEq] at hl <;> subst h <;> subst hl
  all_goals (simp only [execOp]; simp only [List.mem_cons, List.not_mem_nil, or_false, forall_eq_or_imp, forall_eq] at he; (try simp only [he]); (try rfl))

theorem nilChk_exec {x : Operand} {dst : Option Tmp} {ty : TypeId} {pos : String} {after : Array Edge} {g : Option (Nat × Bool)} (hR : Rel n a F) (hk : knownB F (.nilCheck x) = true) :
    execOp a.eval { dst, op := .nilCheck x, type := ty, pos, after, guard := g } = nilChk (ev F x) := by
  obtain ⟨l, hl, he⟩ := hR.evalxs hk
  simp only [opnds, Option.some.injEq] at hl
  subst hl
  show nilChk (a.eval x) = _
  rw [he x (by simp)]

theorem builtin_exec {b : Builtin} {args : Array Operand} {ats : Array TypeId} {dst : Option Tmp} {ty : TypeId} {pos : String} {after : Array Edge} {g : Option (Nat × Bool)} (hR : Rel n a F)
    (hk : knownB F (.call { callee := .builtin b, args, argTypes := ats }) = true) :
    execOp a.eval { dst, op := .call { callee := .builtin b, args, argTypes := ats }, type := ty, pos, after, guard := g } = builtin b ats ty (mapA constB args) (mapA (ev F) args) := by
  obtain ⟨l, hl, he⟩ := hR.evalxs hk
  simp only [opnds, Option.some.injEq] at hl
  subst hl
  show builtin b ats ty (args.map fun | .const _ => true | _ => false) (args.map a.eval) = _
  rw [mapA_eq a.eval (ev F) args (fun x hx => he x (by simp at hx ⊢; exact hx)), mapA_eq _ constB args (fun x _ => by cases x <;> rfl)]

theorem semN_exec {op : Op} {dst : Option Tmp} {ty : TypeId} {pos : String} {after : Array Edge} {g : Option (Nat × Bool)} (hR : Rel n a F) (hk : knownB F op = true) {m : Sem Next} (h : semN op ty (ev F) = some m) :
    execOp a.eval { dst, op, type := ty, pos, after, guard := g } = m := by
  cases op <;> simp only [semN, Option.some.injEq, reduceCtorEq] at h
  case nilCheck x => subst h; exact nilChk_exec hR hk
  case call c =>
    obtain ⟨callee, args, ats⟩ := c
    cases callee with
    | builtin b => simp only [Option.some.injEq] at h; subst h; exact builtin_exec hR hk
    | value f =>
      simp only [Option.some.injEq] at h; subst h
      obtain ⟨l, hl, he⟩ := hR.evalxs hk
      simp only [opnds, Option.some.injEq] at hl
      subst hl
      show (do let d ← Deferred.ofValue (a.eval f) (args.map a.eval); invoke d.target d.args) = callV (ev F f) (mapA (ev F) args)
      rw [he f (by simp), mapA_eq a.eval (ev F) args (fun x hx => he x (by simp at hx ⊢; exact .inr hx))]
      rfl
    | invoke r name =>
      simp only [Option.some.injEq] at h; subst h
      obtain ⟨l, hl, he⟩ := hR.evalxs hk
      simp only [opnds, Option.some.injEq] at hl
      subst hl
      show (invoke (.fn (.method name) #[]) (#[a.eval r] ++ args.map a.eval)) = _
      rw [he r (by simp), mapA_eq a.eval (ev F) args (fun x hx => he x (by simp at hx ⊢; exact .inr hx))]

theorem exec_call {f : FuncId} {args : Array Operand} {ats : Array TypeId} {dst : Option Tmp} {ty : TypeId} {pos : String} {after : Array Edge} {g : Option (Nat × Bool)} (hR : Rel n a F)
    (hk : knownB F (.call { callee := .value (.func f), args, argTypes := ats }) = true) :
    execOp a.eval { dst, op := .call { callee := .value (.func f), args, argTypes := ats }, type := ty, pos, after, guard := g } = callFunc f (mapA (ev F) args) := by
  obtain ⟨l, hl, he⟩ := hR.evalxs hk
  simp only [opnds, Option.some.injEq] at hl
  subst hl
  show callFunc f (#[] ++ args.map a.eval ++ #[]) = _
  rw [mapA_eq a.eval (ev F) args (fun x hx => he x (by simp at hx ⊢; exact .inr hx))]
  simp

theorem trAct_sound {o : Oper} (hk : knownB F o.op = true) (hR : Rel n a F) (hop : opB P n o = true) (h : trAct P o.op o.type F Kv w) (hK : ∀ v w', Kv v w' → K (a.put o.dst v) w') : o.wp P a w K Q := by
  unfold Oper.wp
  have gen : ∀ op, o.op = op → (match semOf op o.type (ev F) with
      | some m => LiftP P m Kv w
      | none => match semU op (ev F) with
        | some m => LiftU P m Kv w
        | none => match semN op o.type (ev F) with
          | some m => NextP P m Kv w
          | none => False) → o.upon P a K Q ((execOp a.eval o).run P w) := by
    intro op ho h
    obtain ⟨dst, op', type, pos, after, guard⟩ := o
    simp only at ho
    subst ho
    split at h
    · rename_i m hm
      rw [semOf_exec hR hk hm]
      exact upon_lift h hK
    · split at h
      · rename_i m hm
        rw [semU_exec hR hk hm]
        exact upon_liftU h hK
      · split at h
        · rename_i m hm
          rw [semN_exec hR hk hm]
          exact upon_next h hK
        · exact h.elim
  unfold trAct at h
  split at h
  · rename_i x hx
    obtain ⟨dst, op', type, pos, after, guard⟩ := o
    simp only at hx; subst hx
    obtain ⟨l, hl, he⟩ := hR.evalxs hk
    simp only [opnds, Option.some.injEq] at hl; subst hl
    show Oper.upon P _ a K Q ((pure (Next.value (a.eval x)) : Sem Next).run P w)
    rw [he x (by simp)]
    unfold ev
    split at h
    · rename_i v hv
      rw [hv]
      exact hK _ _ h
    · exact h.elim
  · rename_i x hx
    obtain ⟨dst, op', type, pos, after, guard⟩ := o
    simp only at hx; subst hx
    obtain ⟨l, hl, he⟩ := hR.evalxs hk
    simp only [opnds, Option.some.injEq] at hl; subst hl
    show Oper.upon P _ a K Q ((pure (Next.value (a.eval x)) : Sem Next).run P w)
    rw [he x (by simp)]
    unfold ev
    split at h
    · rename_i v hv
      rw [hv]
      exact hK _ _ h
    · exact h.elim
  · rename_i c x y hx
    obtain ⟨dst, op', type, pos, after, guard⟩ := o
    simp only at hx; subst hx
    obtain ⟨l, hl, he⟩ := hR.evalxs hk
    simp only [opnds, Option.some.injEq] at hl; subst hl
    obtain ⟨b, hb, h⟩ := h.out
    show Oper.upon P _ a K Q ((do pure (Next.value (if ← asBool (a.eval c) then a.eval x else a.eval y)) : Sem Next).run P w)
    rw [he c (by simp), he x (by simp), he y (by simp), hb]
    have := hK _ _ h
    cases b <;> simpa [asBool, Sem.run_bind, Oper.upon] using this
  · rename_i f args ats hx
    obtain ⟨dst, op', type, pos, after, guard⟩ := o
    simp only at hx; subst hx
    rw [exec_call hR hk]
    exact upon_call (by simpa [opB] using (Bool.and_eq_true _ _ ▸ hop).2) h hK
  · exact gen _ rfl h
end

end Go.Proofs.Ythicbfopjakiiaa.E
namespace Go.Proofs.Ythicbfopjakiiaa.E
open Go

section
variable {P : Program} {n : Nat} {ops : Array Oper} {Q : Exit → Act → World → Prop}

theorem yielded_eq (ops : Array Oper) (tmps : Array Value) (j : Nat) (d : Nat) (hd : (ops[j]?).bind (·.dst) = some d) (b : Bool) :
    yielded ops tmps j = some b ↔ tmps.getD d undef = .bool b := by
  unfold yielded
  rw [hd]
  simp only [Option.bind_some, Array.getD_eq_getD_getElem?]
  cases h : tmps[d]? with
  | none => simp [undef]
  | some v => cases v <;> simp

theorem wanted_guard {o : Oper} {a : Act} {F : Fr} (hR : Rel n a F) {j : Nat} {b : Bool} (hg : o.guard = some (j, b)) {d : Nat} (hd : (ops[j]?).bind (·.dst) = some d) {v : Value} (hv : getO F d = some v) :
    Region.wanted o (yielded ops a.tmps) = true ↔ v = .bool b := by
  have h1 := hR.slot d v hv
  simp only [Region.wanted, hg, beq_iff_eq]
  rw [yielded_eq ops a.tmps j d hd b, h1]

/-- A guarded step: it is done, or passed over. -/
theorem guarded_cases {o : Oper} {a : Act} {F : Fr} {w : World} {X : (Value → World → Prop) → World → Prop} {Kv : Value → World → Prop} (hR : Rel n a F)
    (h : guarded ops.toList o.guard F X Kv w) :
    (Region.wanted o (yielded ops a.tmps) = true ∧ X Kv w) ∨ (Region.wanted o (yielded ops a.tmps) = false ∧ Kv undef w) := by
  unfold guarded at h
  cases hg : o.guard with
  | none =>
    rw [hg] at h
    exact .inl ⟨by simp [Region.wanted, hg], h⟩
  | some jb =>
    obtain ⟨j, b⟩ := jb
    rw [hg] at h
    simp only [guardOf] at h
    cases hd : (ops.toList[j]?).bind (·.dst) with
    | none => rw [hd] at h; exact h.elim
    | some d =>
      rw [hd] at h
      simp only at h
      cases hv : getO F d with
      | none => rw [hv] at h; exact h.elim
      | some v =>
        rw [hv] at h
        have h1 := h.yes
        have h2 := h.no
        have hd' : (ops[j]?).bind (·.dst) = some d := by rw [← hd]; simp
        have hw := wanted_guard (o := o) (ops := ops) hR hg hd' hv
        by_cases hb : v = .bool b
        · exact .inl ⟨hw.2 hb, h1 hb⟩
        · refine .inr ⟨?_, h2 hb⟩
          rw [← Bool.not_eq_true]
          exact fun hc => hb (hw.1 hc)

theorem guardedA_cases {o : Oper} {a : Act} {F : Fr} {w : World} {S : World → Prop} {X : (Value → World → Prop) → World → Prop} {Kv : (World → Prop) → Value → World → Prop} (hR : Rel n a F)
    (h : guardedA ops.toList o.guard F S X Kv w) :
    (Region.wanted o (yielded ops a.tmps) = true ∧ ActP S X Kv w) ∨ (Region.wanted o (yielded ops a.tmps) = false ∧ Kv S undef w) := by
  unfold guardedA at h
  cases hg : o.guard with
  | none =>
    rw [hg] at h
    exact .inl ⟨by simp [Region.wanted, hg], h⟩
  | some jb =>
    obtain ⟨j, b⟩ := jb
    rw [hg] at h
    simp only [guardOf] at h
    cases hd : (ops.toList[j]?).bind (·.dst) with
    | none => rw [hd] at h; exact h.elim
    | some d =>
      rw [hd] at h
      simp only at h
      cases hv : getO F d with
      | none => rw [hv] at h; exact h.elim
      | some v =>
        rw [hv] at h
        have h1 := h.yes
        have h2 := h.no
        have hd' : (ops[j]?).bind (·.dst) = some d := by rw [← hd]; simp
        have hw := wanted_guard (o := o) (ops := ops) hR hg hd' hv
        by_cases hb : v = .bool b
        · exact .inl ⟨hw.2 hb, h1 hb⟩
        · refine .inr ⟨?_, h2 hb⟩
          rw [← Bool.not_eq_true]
          exact fun hc => hb (hw.1 hc)
/-- A narrower condition serves as well. -/
theorem wpAnyH_narrow {P : Program} {md : Region.Mode} {ops : Array Oper} {Q : Exit → Act → World → Prop} {S S' : World → Prop} (hs : ∀ w, S' w → S w) :
    ∀ (fuel : Nat) (listed : Array Bool) (a : Act) (w : World), wpAnyH P md ops Q S' fuel listed a w → wpAnyH P md ops Q S fuel listed a w
  | 0, _, _, _, h => h
  | fuel + 1, _, _, _, h => ⟨h.1, fun i hi => wpOp_mono (fun a' w' h' => ⟨hs _ h'.1, wpAnyH_narrow hs fuel _ a' w' h'.2⟩) (h.2 i hi)⟩

theorem putK_eq (dst : Option Tmp) (v : Value) (F : Fr) (k : Fr → Prop) : putK dst v F k = k (put F dst v) := by cases dst <;> rfl

theorem trOps_sound {ds : List Nat} {a0 : Act} {K : Fr → World → Prop} (hQ : ∀ a F w, Rel n a F → Keep ds a0 a → K F w → Q .normal a w) :
    ∀ (l : List Oper) (F : Fr) (a : Act) (w : World), (∀ o ∈ l, ∀ d, o.dst = some d → d ∈ ds) → l.all (opB P n) = true → Rel n a F → Keep ds a0 a →
      trOps P n ops.toList l K F w → wpList P ops Q l a w
  | [], F, a, w, _, _, hR, hk, h => hQ a F w hR hk h
  | o :: r, F, a, w, hd, hb, hR, hk, h => by
    simp only [List.all_cons, Bool.and_eq_true] at hb
    simp only [trOps] at h
    cases hkn : knownB F o.op with
    | false => rw [hkn] at h; exact h.elim
    | true =>
      rw [hkn] at h
      simp only [cond_true] at h
      have hfit : fitsB n o = true := (Bool.and_eq_true _ _ ▸ hb.1 : fitsB n o = true ∧ _).1
      have next : ∀ v w', (putK o.dst v F fun F => trOps P n ops.toList r K F w') → wpList P ops Q r (a.put o.dst v) w' := fun v w' h' => by
        rw [putK_eq] at h'
        exact trOps_sound hQ r _ _ _ (fun o' ho => hd o' (List.mem_cons_of_mem _ ho)) hb.2 (hR.put hfit v) (Keep.put hR hk hfit (hd o List.mem_cons_self) v) h'
      unfold wpList
      rcases guarded_cases (ops := ops) hR h with ⟨hw, h'⟩ | ⟨hw, h'⟩
      · rw [if_pos hw]
        exact .inl (trAct_sound hkn hR hb.1 h' next)
      · rw [hw]
        simp only [Bool.false_eq_true, if_false]
        exact next _ _ h'

/-- What a reader says. -/
theorem trRead_sound {S : World → Prop} {o : Oper} {a : Act} {F : Fr} {Kv : Value → World → Prop} {w : World} (hk : knownB F o.op = true) (hR : Rel n a F) (h : trRead P S o.op o.type F Kv w) :
    ∃ v, (∀ w', S w' → (execOp a.eval o).run P w' = .ok (.value v) w') ∧ Kv v w := by
  have gen : ∀ op, o.op = op → (match semOf op o.type (ev F) with
      | some m => YieldP P S m Kv w
      | none => False) → ∃ v, (∀ w', S w' → (execOp a.eval o).run P w' = .ok (.value v) w') ∧ Kv v w := by
    intro op ho h
    obtain ⟨dst, op', type, pos, after, guard⟩ := o
    simp only at ho
    subst ho
    split at h
    · rename_i m hm
      obtain ⟨v, hv, hK⟩ := h.out
      refine ⟨v, fun w' hS => ?_, hK⟩
      rw [semOf_exec hR hk hm]
      simp [Sem.run_bind, hv w' hS]
    · exact h.elim
  unfold trRead at h
  split at h
  · rename_i x hx
    obtain ⟨dst, op', type, pos, after, guard⟩ := o
    simp only at hx; subst hx
    obtain ⟨l, hl, he⟩ := hR.evalxs hk
    simp only [opnds, Option.some.injEq] at hl; subst hl
    split at h
    · rename_i v hv
      refine ⟨_, fun w' _ => ?_, h⟩
      show (pure (Next.value (a.eval x)) : Sem Next).run P w' = _
      rw [he x (by simp), ev, hv]; rfl
    · exact h.elim
  · rename_i x hx
    obtain ⟨dst, op', type, pos, after, guard⟩ := o
    simp only at hx; subst hx
    obtain ⟨l, hl, he⟩ := hR.evalxs hk
    simp only [opnds, Option.some.injEq] at hl; subst hl
    split at h
    · rename_i v hv
      refine ⟨_, fun w' _ => ?_, h⟩
      show (pure (Next.value (a.eval x)) : Sem Next).run P w' = _
      rw [he x (by simp), ev, hv]; rfl
    · exact h.elim
  · rename_i c x y hx
    obtain ⟨dst, op', type, pos, after, guard⟩ := o
    simp only at hx; subst hx
    obtain ⟨l, hl, he⟩ := hR.evalxs hk
    simp only [opnds, Option.some.injEq] at hl; subst hl
    obtain ⟨b, hb, h⟩ := h.out
    refine ⟨_, fun w' _ => ?_, h⟩
    show (do pure (Next.value (if ← asBool (a.eval c) then a.eval x else a.eval y)) : Sem Next).run P w' = _
    rw [he c (by simp), he x (by simp), he y (by simp), hb]
    cases b <;> simp [asBool, Sem.run_bind]
  · rename_i x hx
    obtain ⟨dst, op', type, pos, after, guard⟩ := o
    simp only at hx; subst hx
    obtain ⟨v, hv, h⟩ := h.out
    exact ⟨v, fun w' hS => by rw [nilChk_exec hR hk]; exact hv w' hS, h⟩
  · rename_i b args ats hx
    obtain ⟨dst, op', type, pos, after, guard⟩ := o
    simp only at hx; subst hx
    obtain ⟨v, hv, h⟩ := h.out
    exact ⟨v, fun w' hS => by rw [builtin_exec hR hk]; exact hv w' hS, h⟩
  · exact gen _ rfl h

theorem trDraw_sound {ds : List Nat} {a0 : Act} {K : Fr → World → Prop} (hQ : ∀ a F w, Rel n a F → Keep ds a0 a → K F w → Q .normal a w) (hP : ∀ c a w, ¬ Q (.panic c) a w)
    (hd : ∀ (i : Nat) (o : Oper), ops[i]? = some o → ∀ d, o.dst = some d → d ∈ ds) (hb : ∀ (i : Nat) (o : Oper), ops[i]? = some o → opB P n o = true) (hsel : Region.noSelect ops = true) :
    ∀ (l : List (Bool × Nat)) (S : World → Prop) (listed : Array Bool) (fuel : Nat) (F : Fr) (a : Act) (w : World), drawB ops l listed = true → l.length ≤ fuel → S w → Rel n a F → Keep ds a0 a →
      trDraw P n ops.toList l S K F w → wpAnyH P .any ops Q S fuel listed a w
  | [], S, listed, fuel, F, a, w, hB, _, _, hR, hk, h => wpAnyH_done (by simpa [drawB] using hB) (hQ a F w hR hk h) fuel
  | (rd, i) :: r, S, listed, 0, F, a, w, _, hl, _, _, _, _ => by simp at hl
  | (rd, i) :: r, S, listed, fuel + 1, F, a, w, hB, hl, hS, hR, hk, h => by
    simp only [trDraw] at h
    have hl' : r.length ≤ fuel := by simpa using hl
    cases ho : ops.toList[i]? with
    | none => rw [ho] at h; exact h.elim
    | some o =>
      rw [ho] at h
      have ho' : ops[i]? = some o := by rw [← ho]; simp
      simp only at h
      cases hkn : knownB F o.op with
      | false => rw [hkn] at h; exact h.elim
      | true =>
        rw [hkn] at h
        simp only [cond_true] at h
        have hop := hb i o ho'
        have hfit : fitsB n o = true := (Bool.and_eq_true _ _ ▸ hop : fitsB n o = true ∧ _).1
        simp only [drawB, Bool.and_eq_true] at hB
        obtain ⟨hB1, hB2⟩ := hB
        have next : ∀ (S' : World → Prop) v w', S' w' → (putK o.dst v F fun F => trDraw P n ops.toList r S' K F w') → wpAnyH P .any ops Q S' fuel (listed.setIfInBounds i true) (a.put o.dst v) w' := fun S' v w' hS' h' => by
          rw [putK_eq] at h'
          exact trDraw_sound hQ hP hd hb hsel r S' _ fuel _ _ _ hB2 hl' hS' (hR.put hfit v) (Keep.put hR hk hfit (hd i o ho') v) h'
        cases rd with
        | true =>
          simp only [cond_true, Bool.and_eq_true] at h hB1
          rcases guarded_cases (ops := ops) hR h with ⟨hw, h'⟩ | ⟨hw, h'⟩
          · obtain ⟨v, hv, hK⟩ := trRead_sound hkn hR h'
            exact wpAnyH_take ho' hsel hB1.1 hB1.2 (fun c a w hq => (hP _ _ _ hq).elim) (.inl ⟨hw, hv⟩) hS (next S v w hS hK)
          · exact wpAnyH_take ho' hsel hB1.1 hB1.2 (fun c a w hq => (hP _ _ _ hq).elim) (.inr ⟨hw, rfl⟩) hS (next S _ w hS h')
        | false =>
          simp only [cond_false, decide_eq_true_eq] at h hB1
          refine wpAnyH_all hB1 (by simp) fun j hj => ?_
          obtain rfl : j = i := by simpa using hj
          unfold wpOp
          simp only [ho']
          rcases guardedA_cases (ops := ops) hR h with ⟨hw, h'⟩ | ⟨hw, h'⟩
          · rw [if_pos hw]
            exact .inl (trAct_sound hkn hR hop h'.out fun v w' ⟨S', hS', hsub, hh⟩ => ⟨hsub _ hS', wpAnyH_narrow hsub _ _ _ _ (next S' v w' hS' hh)⟩)
          · rw [hw]
            simp only [Bool.false_eq_true, if_false]
            exact ⟨hS, next S _ w hS h'⟩
end

section
variable {P : Program} {ops : Array Oper} {Q : Exit → Act → World → Prop}
def Closed (ops : Array Oper) (listed : Array Bool) : Prop :=
  ∀ (k : Nat) (o : Oper), ops[k]? = some o → listed.getD k false = true → ∀ e ∈ o.after, Region.binds .any e = true → listed.getD e.on false = true
theorem Closed.start (ops : Array Oper) (n : Nat) : Closed ops (Array.replicate n false) := fun k o _ h => by
  rcases Nat.lt_or_ge k n with hk | hk
  · simp [hk] at h
  · simp [Array.getElem?_eq_none, hk] at h
theorem Closed.set {listed : Array Bool} (h : Closed ops listed) {j : Nat} (hj : j ∈ Region.ready .any ops listed) : Closed ops (listed.setIfInBounds j true) := fun k o ho hk e he hb => by
  by_cases hkj : j = k
  · subst hkj
    obtain ⟨_, o', ho', hall⟩ := mem_ready.1 hj
    rw [ho] at ho'
    cases ho'
    exact getD_set_true (hall e he hb)
  · rw [getD_set_ne false hkj] at hk
    exact getD_set_true (h k o ho hk e he hb)
theorem any_beq_mem {l : List Nat} {k : Nat} (h : l.any (Nat.beq k) = true) : k ∈ l := by
  obtain ⟨x, hx, hb⟩ := List.any_eq_true.1 h
  rw [Nat.eq_of_beq_eq_true hb]; exact hx
theorem direct_listed {listed : Array Bool} (h : Closed ops listed) {j : Nat} (hj : listed.getD j false = true) : ∀ k ∈ directB ops j, listed.getD k false = true := fun k hk => by
  unfold directB at hk
  cases ho : ops[j]? with
  | none => rw [ho] at hk; cases hk
  | some o =>
    rw [ho] at hk
    obtain ⟨e, he, rfl⟩ := List.mem_map.1 hk
    obtain ⟨he1, he2⟩ := List.mem_filter.1 he
    exact h j o ho hj e (Array.mem_toList_iff.1 he1) he2
theorem close_listed {listed : Array Bool} (h : Closed ops listed) : ∀ (n : Nat) (l : List Nat), (∀ k ∈ l, listed.getD k false = true) → ∀ k ∈ closeB ops n l, listed.getD k false = true
  | 0, _, hl, k, hk => hl k hk
  | n + 1, l, hl, k, hk => close_listed h n (stepB ops l) (fun k hk => by
      obtain ⟨_, hk⟩ := List.mem_filter.1 hk
      rcases Bool.or_eq_true _ _ ▸ hk with hk | hk
      · exact hl k (any_beq_mem hk)
      · obtain ⟨j, hj, hk⟩ := List.any_eq_true.1 hk
        exact direct_listed h (hl j hj) k (any_beq_mem hk)) k hk
theorem last_waits {s : Nat} (hc : coverB ops s = true) {i : Nat} {oi : Oper} (hi : ops[i]? = some oi) (his : i ≠ s) (listed : Array Bool) (h : Closed ops listed) (hun : listed.getD i true = false) : s ∉ Region.ready .any ops listed := fun hs => by
  have hlt : i < ops.size := (Array.getElem?_eq_some_iff.1 hi).1
  have h1 := List.all_eq_true.1 hc i (List.mem_range.2 hlt)
  rcases Bool.or_eq_true _ _ ▸ h1 with h1 | h1
  · exact his (Nat.eq_of_beq_eq_true h1)
  · have h2 := close_listed h ops.size (directB ops s) (fun k hk => by
      unfold directB at hk
      obtain ⟨_, o, ho, hall⟩ := mem_ready.1 hs
      rw [ho] at hk
      obtain ⟨e, he, rfl⟩ := List.mem_map.1 hk
      obtain ⟨he1, he2⟩ := List.mem_filter.1 he
      exact hall e (Array.mem_toList_iff.1 he1) he2) i (any_beq_mem h1)
    rcases Nat.lt_or_ge i listed.size with hk | hk
    · simp [hk] at h2 hun
      rw [hun] at h2; cases h2
    · simp [Array.getElem?_eq_none, hk] at h2

/-- Whatever order is picked; S holds behind each operation but s. -/
def wpL (P : Program) (ops : Array Oper) (Q : Exit → Act → World → Prop) (s : Nat) (S : World → Prop) : Nat → Array Bool → Act → World → Prop
  | 0, listed, a, w => Region.ready .any ops listed = [] ∧ Q .normal a w
  | n + 1, listed, a, w => (Region.ready .any ops listed = [] → Q .normal a w) ∧
      ∀ i ∈ Region.ready .any ops listed, wpOp P ops Q i (fun a' w' => (i ≠ s → S w') ∧ wpL P ops Q s S n (listed.setIfInBounds i true) a' w') a w
theorem wpAny_of_wpL {s : Nat} {S : World → Prop} : ∀ (n : Nat) (listed : Array Bool) (a : Act) (w : World), wpL P ops Q s S n listed a w → wpAny P .any ops Q n listed a w
  | 0, _, _, _, h => h
  | n + 1, _, _, _, h => ⟨h.1, fun i hi => wpOp_mono (fun a' w' h' => wpAny_of_wpL n _ a' w' h'.2) (h.2 i hi)⟩
theorem wpL_narrow {s : Nat} {S S' : World → Prop} (hs : ∀ w, S' w → S w) : ∀ (n : Nat) (listed : Array Bool) (a : Act) (w : World), wpL P ops Q s S' n listed a w → wpL P ops Q s S n listed a w
  | 0, _, _, _, h => h
  | n + 1, _, _, _, h => ⟨h.1, fun i hi => wpOp_mono (fun a' w' h' => ⟨fun hne => hs _ (h'.1 hne), wpL_narrow hs n _ a' w' h'.2⟩) (h.2 i hi)⟩
/-- A reader that is ready may be taken first: s cannot come up before it. -/
theorem wpL_read {s : Nat} {S : World → Prop} (hcov : coverB ops s = true) {i : Nat} {oi : Oper} {v : Value} (hi : ops[i]? = some oi) (his : i ≠ s) (hsel : ∀ (j : Nat) (o : Oper) cs b, ops[j]? = some o → o.op ≠ .select cs b)
    (hQ : ∀ c a w, Q (.panic c) (a.put oi.dst v) w → Q (.panic c) a w) (n : Nat) : ∀ (listed : Array Bool) (a : Act) (w : World), Closed ops listed →
      (∀ j oj, ops[j]? = some oj → j ≠ i → listed.getD j true = false → (∀ e ∈ oj.after, Region.binds .any e = true → e.on ≠ i) → oi.apart ops oj = true) →
      i ∈ Region.ready .any ops listed → YieldsIf P ops S oi v a → S w → wpL P ops Q s S n (listed.setIfInBounds i true) (a.put oi.dst v) w → wpL P ops Q s S (n + 1) listed a w := by
  induction n with
  | zero =>
    intro listed a w _ _ hr hy hS H
    refine ⟨fun h => absurd hr (by rw [h]; simp), fun j hj => ?_⟩
    rcases Nat.decEq j i with hji | hji
    · have := ready_mono hj hji
      rw [H.1] at this
      cases this
    · subst hji
      exact hy.wpOp hi hS ⟨fun _ => hS, H⟩
  | succ n ih =>
    intro listed a w hcl hfree hr hy hS H
    refine ⟨fun h => absurd hr (by rw [h]; simp), fun j hj => ?_⟩
    rcases Nat.decEq j i with hji | hji
    · have hun := (mem_ready.1 hr).1
      have hjs : j ≠ s := fun e => last_waits hcov hi his listed hcl hun (e ▸ hj)
      obtain ⟨hjun, oj, hoj, hall⟩ := mem_ready.1 hj
      have hno : ∀ e ∈ oj.after, Region.binds .any e = true → e.on ≠ i := fun e he hb heq => by
        have h1 := hall e he hb
        rw [heq] at h1
        rcases Nat.lt_or_ge i listed.size with hk | hk
        · simp [hk] at hun h1
          rw [hun] at h1; cases h1
        · simp [Array.getElem?_eq_none, hk] at h1
      refine wpOp_mono (fun a' w' h3 => ⟨fun _ => h3.2.1 hjs, ih _ a' w' (hcl.set hj) (fun k ok hk hki hku hkn => ?_) (ready_mono hr (Ne.symm hji)) h3.1 (h3.2.1 hjs) ?_⟩) (wpOp_putIf hoj (hfree j oj hoj hji hjun hno) (fun cs b => hsel i oi cs b hi) (fun cs b => hsel j oj cs b hoj) hQ hy (H.2 j (ready_mono hj hji)))
      · refine hfree k ok hk hki ?_ hkn
        rcases Nat.decEq j k with hjk | hjk
        · rwa [getD_set_ne true hjk] at hku
        · exact hjk ▸ hjun
      · rw [Array.setIfInBounds_comm _ _ hji]
        exact h3.2.2
    · subst hji
      exact hy.wpOp hi hS ⟨fun _ => hS, H⟩
end

section
variable {P : Program} {n : Nat} {ops : Array Oper} {Q : Exit → Act → World → Prop}
theorem trDT_sound {ds : List Nat} {a0 : Act} {K : Fr → World → Prop} (hQ : ∀ a F w, Rel n a F → Keep ds a0 a → K F w → Q .normal a w) (hP : ∀ c a w, ¬ Q (.panic c) a w)
    (hd : ∀ (i : Nat) (o : Oper), ops[i]? = some o → ∀ d, o.dst = some d → d ∈ ds) (hb : ∀ (i : Nat) (o : Oper), ops[i]? = some o → opB P n o = true) (hsel : Region.noSelect ops = true) :
    ∀ (t : DT) (S : World → Prop) (listed : Array Bool) (fuel : Nat) (F : Fr) (a : Act) (w : World), S w → Rel n a F → Keep ds a0 a →
      (drawTB ops false t listed = true → dtLen t ≤ fuel → trDT P n ops.toList false t S K F w → wpAnyH P .any ops Q S fuel listed a w) ∧
      (drawTB ops true t listed = true → dtLen t ≤ fuel + 1 → trDT P n ops.toList true t S K F w → ∀ j ∈ alts t, wpOp P ops Q j (fun a' w' => S w' ∧ wpAnyH P .any ops Q S fuel (listed.setIfInBounds j true) a' w') a w) := by
  have acts : ∀ (i : Nat) (o : Oper) (S : World → Prop) (listed : Array Bool) (fuel : Nat) (F : Fr) (a : Act) (w : World) (Kv : (World → Prop) → Value → World → Prop), ops[i]? = some o → knownB F o.op = true → S w → Rel n a F → Keep ds a0 a →
      (∀ (S' : World → Prop) v w', S' w' → Kv S' v w' → wpAnyH P .any ops Q S' fuel (listed.setIfInBounds i true) (a.put o.dst v) w') →
      guardedA ops.toList o.guard F S (trAct P o.op o.type F) Kv w → wpOp P ops Q i (fun a' w' => S w' ∧ wpAnyH P .any ops Q S fuel (listed.setIfInBounds i true) a' w') a w := by
    intro i o S listed fuel F a w Kv ho' hkn hS hR hk next h
    have hop := hb i o ho'
    unfold wpOp
    simp only [ho']
    rcases guardedA_cases (ops := ops) hR h with ⟨hw, h'⟩ | ⟨hw, h'⟩
    · rw [if_pos hw]
      exact .inl (trAct_sound hkn hR hop h'.out fun v w' ⟨S', hS', hsub, hh⟩ => ⟨hsub _ hS', wpAnyH_narrow hsub _ _ _ _ (next S' v w' hS' hh)⟩)
    · rw [hw]
      simp only [Bool.false_eq_true, if_false]
      exact ⟨hS, next S _ w hS h'⟩
  intro t
  induction t with
  | done =>
    intro S listed fuel F a w hS hR hk
    refine ⟨fun hB _ h => wpAnyH_done (by simpa [drawTB] using hB) (hQ a F w hR hk h) fuel, fun _ _ _ j hj => by simp [alts] at hj⟩
  | rd i t ih =>
    intro S listed fuel F a w hS hR hk
    refine ⟨fun hB hl h => ?_, fun _ _ _ j hj => by simp [alts] at hj⟩
    cases fuel with
    | zero => simp [dtLen] at hl
    | succ fuel =>
    simp only [trDT] at h
    cases ho : ops.toList[i]? with
    | none => rw [ho] at h; exact h.elim
    | some o =>
      rw [ho] at h
      have ho' : ops[i]? = some o := by rw [← ho]; simp
      simp only at h
      cases hkn : knownB F o.op with
      | false => rw [hkn] at h; exact h.elim
      | true =>
        rw [hkn] at h
        simp only [cond_true] at h
        have hop := hb i o ho'
        have hfit : fitsB n o = true := (Bool.and_eq_true _ _ ▸ hop : fitsB n o = true ∧ _).1
        simp only [drawTB, Bool.and_eq_true] at hB
        obtain ⟨⟨hB1, hB2⟩, hB3⟩ := hB
        have next : ∀ v w', S w' → (putK o.dst v F fun F => trDT P n ops.toList false t S K F w') → wpAnyH P .any ops Q S fuel (listed.setIfInBounds i true) (a.put o.dst v) w' := fun v w' hS' h' => by
          rw [putK_eq] at h'
          exact (ih S _ fuel _ _ w' hS' (hR.put hfit v) (Keep.put hR hk hfit (hd i o ho') v)).1 hB3 (by simp [dtLen] at hl; omega) h'
        rcases guarded_cases (ops := ops) hR h with ⟨hw, h'⟩ | ⟨hw, h'⟩
        · obtain ⟨v, hv, hK⟩ := trRead_sound hkn hR h'
          exact wpAnyH_take ho' hsel hB1 hB2 (fun c a w hq => (hP _ _ _ hq).elim) (.inl ⟨hw, hv⟩) hS (next v w hS hK)
        · exact wpAnyH_take ho' hsel hB1 hB2 (fun c a w hq => (hP _ _ _ hq).elim) (.inr ⟨hw, rfl⟩) hS (next _ w hS h')
  | act i t ih =>
    intro S listed fuel F a w hS hR hk
    refine ⟨fun hB hl h => ?_, fun _ _ _ j hj => by simp [alts] at hj⟩
    cases fuel with
    | zero => simp [dtLen] at hl
    | succ fuel =>
    simp only [trDT] at h
    cases ho : ops.toList[i]? with
    | none => rw [ho] at h; exact h.elim
    | some o =>
      rw [ho] at h
      have ho' : ops[i]? = some o := by rw [← ho]; simp
      simp only at h
      cases hkn : knownB F o.op with
      | false => rw [hkn] at h; exact h.elim
      | true =>
        rw [hkn] at h
        simp only [cond_true] at h
        have hfit : fitsB n o = true := (Bool.and_eq_true _ _ ▸ hb i o ho' : fitsB n o = true ∧ _).1
        simp only [drawTB, Bool.and_eq_true, decide_eq_true_eq] at hB
        refine wpAnyH_all hB.1 (by simp) fun j hj => ?_
        obtain rfl : j = i := by simpa using hj
        refine acts j o S listed fuel F a w _ ho' hkn hS hR hk (fun S' v w' hS' h' => ?_) h
        rw [putK_eq] at h'
        exact (ih S' _ fuel _ _ w' hS' (hR.put hfit v) (Keep.put hR hk hfit (hd j o ho') v)).1 hB.2 (by simp [dtLen] at hl; omega) h'
  | alt i t r iht ihr =>
    have both : ∀ (b : Bool) (S : World → Prop) (listed : Array Bool) (fuel : Nat) (F : Fr) (a : Act) (w : World), S w → Rel n a F → Keep ds a0 a → drawTB ops b (.alt i t r) listed = true → dtLen (.alt i t r) ≤ fuel + 1 → trDT P n ops.toList b (.alt i t r) S K F w →
        ∀ j ∈ alts (.alt i t r), wpOp P ops Q j (fun a' w' => S w' ∧ wpAnyH P .any ops Q S fuel (listed.setIfInBounds j true) a' w') a w := by
      intro b S listed fuel F a w hS hR hk hB hl h j hj
      have hq : match ops.toList[i]? with
        | none => False
        | some o => bif knownB F o.op then BothP (fun w => guardedA ops.toList o.guard F S (trAct P o.op o.type F) (fun S v w => putK o.dst v F fun F => trDT P n ops.toList false t S K F w) w) (fun w => trDT P n ops.toList true r S K F w) w else False := by cases b <;> exact h
      have hB : ((Region.ready .any ops listed).contains i && (b || (Region.ready .any ops listed).all fun j => (i :: alts r).any (Nat.beq j)) && (drawTB ops false t (listed.setIfInBounds i true) && drawTB ops true r listed)) = true := by cases b <;> exact hB
      simp only [Bool.and_eq_true] at hB
      obtain ⟨_, hB1, hB2⟩ := hB
      have hl1 : dtLen t + 1 ≤ fuel + 1 := Nat.le_trans (Nat.le_max_left _ _) hl
      have hl2 : dtLen r ≤ fuel + 1 := Nat.le_trans (Nat.le_max_right _ _) hl
      cases ho : ops.toList[i]? with
      | none => rw [ho] at hq; exact hq.elim
      | some o =>
        rw [ho] at hq
        have ho' : ops[i]? = some o := by rw [← ho]; simp
        simp only at hq
        cases hkn : knownB F o.op with
        | false => rw [hkn] at hq; exact hq.elim
        | true =>
          rw [hkn] at hq
          simp only [cond_true] at hq
          have hfit : fitsB n o = true := (Bool.and_eq_true _ _ ▸ hb i o ho' : fitsB n o = true ∧ _).1
          rcases List.mem_cons.1 hj with rfl | hj
          · refine acts j o S listed fuel F a w _ ho' hkn hS hR hk (fun S' v w' hS' h' => ?_) hq.fst
            rw [putK_eq] at h'
            exact (iht S' _ fuel _ _ w' hS' (hR.put hfit v) (Keep.put hR hk hfit (hd j o ho') v)).1 hB1 (by omega) h'
          · exact (ihr S listed fuel F a w hS hR hk).2 hB2 hl2 hq.snd j hj
    intro S listed fuel F a w hS hR hk
    refine ⟨fun hB hl h => ?_, fun hB hl h => both true S listed fuel F a w hS hR hk hB hl h⟩
    cases fuel with
    | zero => exact absurd (Nat.le_trans (Nat.le_max_left _ _) hl) (by omega)
    | succ fuel =>
      have hB' := hB
      have hB' : ((Region.ready .any ops listed).contains i && (false || (Region.ready .any ops listed).all fun j => (i :: alts r).any (Nat.beq j)) && (drawTB ops false t (listed.setIfInBounds i true) && drawTB ops true r listed)) = true := hB
      simp only [Bool.and_eq_true, Bool.false_or] at hB'
      obtain ⟨⟨h1, h2⟩, _⟩ := hB'
      refine ⟨fun he => absurd h1 (by rw [he]; simp), fun j hj => ?_⟩
      have hm := List.all_eq_true.1 h2 j hj
      exact both false S listed fuel F a w hS hR hk hB hl h j (any_beq_mem hm)
end

section
variable {P : Program} {n : Nat} {ops : Array Oper} {Q : Exit → Act → World → Prop}
theorem wpL_done {s : Nat} {S : World → Prop} {listed : Array Bool} {a : Act} {w : World} (hr : Region.ready .any ops listed = []) (h : Q .normal a w) : ∀ m, wpL P ops Q s S m listed a w
  | 0 => ⟨hr, h⟩
  | _ + 1 => ⟨fun _ => h, by rw [hr]; simp⟩
theorem last_sound {ds : List Nat} {a0 : Act} {K : Fr → World → Prop} {s : Nat} {o : Oper} (ho : ops[s]? = some o) {listed : Array Bool} (hr : Region.ready .any ops listed = [s]) (he : Region.ready .any ops (listed.setIfInBounds s true) = []) (hop : opB P n o = true)
    (hd : ∀ d, o.dst = some d → d ∈ ds) (hQ : ∀ a F w, Rel n a F → Keep ds a0 a → K F w → Q .normal a w) {a : Act} {F : Fr} {w : World} (hR : Rel n a F) (hk : Keep ds a0 a) (h : trOps P n ops.toList [o] K F w) (S : World → Prop) (m : Nat) : wpL P ops Q s S (m + 1) listed a w := by
  refine ⟨fun h0 => absurd (hr ▸ h0) (by simp), fun j hj => ?_⟩
  rw [hr] at hj
  obtain rfl : j = s := by simpa using hj
  have hfit : fitsB n o = true := (Bool.and_eq_true _ _ ▸ hop : fitsB n o = true ∧ _).1
  simp only [trOps] at h
  cases hkn : knownB F o.op with
  | false => rw [hkn] at h; exact h.elim
  | true =>
    rw [hkn] at h
    simp only [cond_true] at h
    have fin : ∀ v w', (putK o.dst v F fun F => K F w') → (j ≠ j → S w') ∧ wpL P ops Q j S m (listed.setIfInBounds j true) (a.put o.dst v) w' := fun v w' h' => by
      rw [putK_eq] at h'
      exact ⟨fun hne => absurd rfl hne, wpL_done he (hQ _ _ _ (hR.put hfit v) (Keep.put hR hk hfit hd v) h') m⟩
    unfold wpOp
    simp only [ho]
    rcases guarded_cases (ops := ops) hR h with ⟨hw, h'⟩ | ⟨hw, h'⟩
    · rw [if_pos hw]
      exact .inl (trAct_sound hkn hR hop h' fun v w' hh => fin v w' hh)
    · rw [hw]
      simp only [Bool.false_eq_true, if_false]
      exact fin _ w h'
theorem trDrawL_sound {ds : List Nat} {a0 : Act} {K : Fr → World → Prop} {s : Nat} (hcov : coverB ops s = true) (hQ : ∀ listed a F w, Region.ready .any ops listed = [s] → Region.ready .any ops (listed.setIfInBounds s true) = [] → Rel n a F → Keep ds a0 a → K F w → ∀ S fuel, wpL P ops Q s S (fuel + 1) listed a w) (hP : ∀ c a w, ¬ Q (.panic c) a w)
    (hd : ∀ (i : Nat) (o : Oper), ops[i]? = some o → ∀ d, o.dst = some d → d ∈ ds) (hb : ∀ (i : Nat) (o : Oper), ops[i]? = some o → opB P n o = true) (hsel : Region.noSelect ops = true) :
    ∀ (l : List (Bool × Nat)) (S : World → Prop) (listed : Array Bool) (fuel : Nat) (F : Fr) (a : Act) (w : World), Closed ops listed → drawLB ops s l listed = true → l.length + 1 ≤ fuel → S w → Rel n a F → Keep ds a0 a →
      trDraw P n ops.toList l S K F w → wpL P ops Q s S fuel listed a w
  | [], S, listed, 0, F, a, w, _, _, hl, _, _, _, _ => by simp at hl
  | [], S, listed, fuel + 1, F, a, w, _, hB, _, _, hR, hk, h => by
    simp only [drawLB, Bool.and_eq_true, decide_eq_true_eq, List.isEmpty_iff] at hB
    exact hQ listed a F w hB.1 hB.2 hR hk h S fuel
  | (rd, i) :: r, S, listed, 0, F, a, w, _, _, hl, _, _, _, _ => by simp at hl
  | (rd, i) :: r, S, listed, fuel + 1, F, a, w, hcl, hB, hl, hS, hR, hk, h => by
    simp only [trDraw] at h
    have hl' : r.length + 1 ≤ fuel := by simpa using hl
    cases ho : ops.toList[i]? with
    | none => rw [ho] at h; exact h.elim
    | some o =>
      rw [ho] at h
      have ho' : ops[i]? = some o := by rw [← ho]; simp
      simp only at h
      cases hkn : knownB F o.op with
      | false => rw [hkn] at h; exact h.elim
      | true =>
        rw [hkn] at h
        simp only [cond_true] at h
        have hop := hb i o ho'
        have hfit : fitsB n o = true := (Bool.and_eq_true _ _ ▸ hop : fitsB n o = true ∧ _).1
        simp only [drawLB, Bool.and_eq_true, Bool.not_eq_true'] at hB
        obtain ⟨⟨his', hB1⟩, hB2⟩ := hB
        have his : i ≠ s := fun e => by subst e; rw [Nat.beq_refl] at his'; cases his'
        have hrdy : i ∈ Region.ready .any ops listed := by
          cases rd with
          | true => simp only [cond_true, Bool.and_eq_true] at hB1; simpa using hB1.2
          | false => simp only [cond_false, decide_eq_true_eq] at hB1; rw [hB1]; simp
        have hcl' := hcl.set hrdy
        have next : ∀ (S' : World → Prop) v w', S' w' → (putK o.dst v F fun F => trDraw P n ops.toList r S' K F w') → wpL P ops Q s S' fuel (listed.setIfInBounds i true) (a.put o.dst v) w' := fun S' v w' hS' h' => by
          rw [putK_eq] at h'
          exact trDrawL_sound hcov hQ hP hd hb hsel r S' _ fuel _ _ _ hcl' hB2 hl' hS' (hR.put hfit v) (Keep.put hR hk hfit (hd i o ho') v) h'
        cases rd with
        | true =>
          simp only [cond_true, Bool.and_eq_true] at h hB1
          rcases guarded_cases (ops := ops) hR h with ⟨hw, h'⟩ | ⟨hw, h'⟩
          · obtain ⟨v, hv, hK⟩ := trRead_sound hkn hR h'
            exact wpL_read hcov ho' his (Region.noSelect_spec hsel) (fun c a w hq => (hP _ _ _ hq).elim) fuel listed a w hcl (Region.free_spec ho' hB1.1) hrdy (.inl ⟨hw, hv⟩) hS (next S v w hS hK)
          · exact wpL_read hcov ho' his (Region.noSelect_spec hsel) (fun c a w hq => (hP _ _ _ hq).elim) fuel listed a w hcl (Region.free_spec ho' hB1.1) hrdy (.inr ⟨hw, rfl⟩) hS (next S _ w hS h')
        | false =>
          simp only [cond_false, decide_eq_true_eq] at h hB1
          refine ⟨fun h0 => absurd (hB1 ▸ h0) (by simp), fun j hj => ?_⟩
          rw [hB1] at hj
          obtain rfl : j = i := by simpa using hj
          unfold wpOp
          simp only [ho']
          rcases guardedA_cases (ops := ops) hR h with ⟨hw, h'⟩ | ⟨hw, h'⟩
          · rw [if_pos hw]
            exact .inl (trAct_sound hkn hR hop h'.out fun v w' ⟨S', hS', hsub, hh⟩ => ⟨fun _ => hsub _ hS', wpL_narrow hsub _ _ _ _ (next S' v w' hS' hh)⟩)
          · rw [hw]
            simp only [Bool.false_eq_true, if_false]
            exact ⟨fun _ => hS, next S _ w hS h'⟩
end

section
variable {P : Program} {n : Nat} {ops : Array Oper} {Q : Exit → Act → World → Prop}
theorem trDTL_sound {ds : List Nat} {a0 : Act} {K : Fr → World → Prop} {s : Nat} (hcov : coverB ops s = true) (hQ : ∀ listed a F w, Region.ready .any ops listed = [s] → Region.ready .any ops (listed.setIfInBounds s true) = [] → Rel n a F → Keep ds a0 a → K F w → ∀ S fuel, wpL P ops Q s S (fuel + 1) listed a w) (hP : ∀ c a w, ¬ Q (.panic c) a w)
    (hd : ∀ (i : Nat) (o : Oper), ops[i]? = some o → ∀ d, o.dst = some d → d ∈ ds) (hb : ∀ (i : Nat) (o : Oper), ops[i]? = some o → opB P n o = true) (hsel : Region.noSelect ops = true) :
    ∀ (t : DT) (S : World → Prop) (listed : Array Bool) (fuel : Nat) (F : Fr) (a : Act) (w : World), Closed ops listed → S w → Rel n a F → Keep ds a0 a →
      (drawTLB ops s false t listed = true → dtLen t + 1 ≤ fuel → trDT P n ops.toList false t S K F w → wpL P ops Q s S fuel listed a w) ∧
      (drawTLB ops s true t listed = true → dtLen t ≤ fuel → trDT P n ops.toList true t S K F w → ∀ j ∈ alts t, j ∈ Region.ready .any ops listed → wpOp P ops Q j (fun a' w' => (j ≠ s → S w') ∧ wpL P ops Q s S fuel (listed.setIfInBounds j true) a' w') a w) := by
  have acts : ∀ (i : Nat) (o : Oper) (S : World → Prop) (listed : Array Bool) (fuel : Nat) (F : Fr) (a : Act) (w : World) (Kv : (World → Prop) → Value → World → Prop), ops[i]? = some o → knownB F o.op = true → S w → Rel n a F → Keep ds a0 a →
      (∀ (S' : World → Prop) v w', S' w' → Kv S' v w' → wpL P ops Q s S' fuel (listed.setIfInBounds i true) (a.put o.dst v) w') →
      guardedA ops.toList o.guard F S (trAct P o.op o.type F) Kv w → wpOp P ops Q i (fun a' w' => (i ≠ s → S w') ∧ wpL P ops Q s S fuel (listed.setIfInBounds i true) a' w') a w := by
    intro i o S listed fuel F a w Kv ho' hkn hS hR hk next h
    have hop := hb i o ho'
    unfold wpOp
    simp only [ho']
    rcases guardedA_cases (ops := ops) hR h with ⟨hw, h'⟩ | ⟨hw, h'⟩
    · rw [if_pos hw]
      exact .inl (trAct_sound hkn hR hop h'.out fun v w' ⟨S', hS', hsub, hh⟩ => ⟨fun _ => hsub _ hS', wpL_narrow hsub _ _ _ _ (next S' v w' hS' hh)⟩)
    · rw [hw]
      simp only [Bool.false_eq_true, if_false]
      exact ⟨fun _ => hS, next S _ w hS h'⟩
  intro t
  induction t with
  | done =>
    intro S listed fuel F a w hcl hS hR hk
    refine ⟨fun hB hl h => ?_, fun _ _ _ j hj => by simp [alts] at hj⟩
    simp only [drawTLB, Bool.and_eq_true, decide_eq_true_eq, List.isEmpty_iff] at hB
    cases fuel with
    | zero => simp at hl
    | succ fuel => exact hQ listed a F w hB.1 hB.2 hR hk h S fuel
  | rd i t ih =>
    intro S listed fuel F a w hcl hS hR hk
    refine ⟨fun hB hl h => ?_, fun _ _ _ j hj => by simp [alts] at hj⟩
    cases fuel with
    | zero => simp at hl
    | succ fuel =>
    simp only [trDT] at h
    cases ho : ops.toList[i]? with
    | none => rw [ho] at h; exact h.elim
    | some o =>
      rw [ho] at h
      have ho' : ops[i]? = some o := by rw [← ho]; simp
      simp only at h
      cases hkn : knownB F o.op with
      | false => rw [hkn] at h; exact h.elim
      | true =>
        rw [hkn] at h
        simp only [cond_true] at h
        have hop := hb i o ho'
        have hfit : fitsB n o = true := (Bool.and_eq_true _ _ ▸ hop : fitsB n o = true ∧ _).1
        simp only [drawTLB, Bool.and_eq_true, Bool.not_eq_true'] at hB
        obtain ⟨⟨his', hB1, hB2⟩, hB3⟩ := hB
        have his : i ≠ s := fun e => by subst e; rw [Nat.beq_refl] at his'; cases his'
        have hrdy : i ∈ Region.ready .any ops listed := by simpa using hB2
        have next : ∀ v w', S w' → (putK o.dst v F fun F => trDT P n ops.toList false t S K F w') → wpL P ops Q s S fuel (listed.setIfInBounds i true) (a.put o.dst v) w' := fun v w' hS' h' => by
          rw [putK_eq] at h'
          exact (ih S _ fuel _ _ w' (hcl.set hrdy) hS' (hR.put hfit v) (Keep.put hR hk hfit (hd i o ho') v)).1 hB3 (by simp [dtLen] at hl; omega) h'
        rcases guarded_cases (ops := ops) hR h with ⟨hw, h'⟩ | ⟨hw, h'⟩
        · obtain ⟨v, hv, hK⟩ := trRead_sound hkn hR h'
          exact wpL_read hcov ho' his (Region.noSelect_spec hsel) (fun c a w hq => (hP _ _ _ hq).elim) fuel listed a w hcl (Region.free_spec ho' hB1) hrdy (.inl ⟨hw, hv⟩) hS (next v w hS hK)
        · exact wpL_read hcov ho' his (Region.noSelect_spec hsel) (fun c a w hq => (hP _ _ _ hq).elim) fuel listed a w hcl (Region.free_spec ho' hB1) hrdy (.inr ⟨hw, rfl⟩) hS (next _ w hS h')
  | act i t ih =>
    intro S listed fuel F a w hcl hS hR hk
    refine ⟨fun hB hl h => ?_, fun _ _ _ j hj => by simp [alts] at hj⟩
    cases fuel with
    | zero => simp at hl
    | succ fuel =>
    simp only [trDT] at h
    cases ho : ops.toList[i]? with
    | none => rw [ho] at h; exact h.elim
    | some o =>
      rw [ho] at h
      have ho' : ops[i]? = some o := by rw [← ho]; simp
      simp only at h
      cases hkn : knownB F o.op with
      | false => rw [hkn] at h; exact h.elim
      | true =>
        rw [hkn] at h
        simp only [cond_true] at h
        have hfit : fitsB n o = true := (Bool.and_eq_true _ _ ▸ hb i o ho' : fitsB n o = true ∧ _).1
        simp only [drawTLB, Bool.and_eq_true, decide_eq_true_eq, Bool.not_eq_true'] at hB
        obtain ⟨⟨_, hB1⟩, hB2⟩ := hB
        have hrdy : i ∈ Region.ready .any ops listed := by rw [hB1]; simp
        refine ⟨fun h0 => absurd (hB1 ▸ h0) (by simp), fun j hj => ?_⟩
        rw [hB1] at hj
        obtain rfl : j = i := by simpa using hj
        refine acts j o S listed fuel F a w _ ho' hkn hS hR hk (fun S' v w' hS' h' => ?_) h
        rw [putK_eq] at h'
        exact (ih S' _ fuel _ _ w' (hcl.set hrdy) hS' (hR.put hfit v) (Keep.put hR hk hfit (hd j o ho') v)).1 hB2 (by simp [dtLen] at hl; omega) h'
  | alt i t r iht ihr =>
    have both : ∀ (b : Bool) (S : World → Prop) (listed : Array Bool) (fuel : Nat) (F : Fr) (a : Act) (w : World), Closed ops listed → S w → Rel n a F → Keep ds a0 a → drawTLB ops s b (.alt i t r) listed = true → dtLen (.alt i t r) ≤ fuel → trDT P n ops.toList b (.alt i t r) S K F w →
        ∀ j ∈ alts (.alt i t r), j ∈ Region.ready .any ops listed → wpOp P ops Q j (fun a' w' => (j ≠ s → S w') ∧ wpL P ops Q s S fuel (listed.setIfInBounds j true) a' w') a w := by
      intro b S listed fuel F a w hcl hS hR hk hB hl h j hj hjr
      have hq : match ops.toList[i]? with
        | none => False
        | some o => bif knownB F o.op then BothP (fun w => guardedA ops.toList o.guard F S (trAct P o.op o.type F) (fun S v w => putK o.dst v F fun F => trDT P n ops.toList false t S K F w) w) (fun w => trDT P n ops.toList true r S K F w) w else False := by cases b <;> exact h
      have hB : (!Nat.beq i s && ((Region.ready .any ops listed).contains i && (b || (Region.ready .any ops listed).all fun j => (i :: alts r).any (Nat.beq j))) && (drawTLB ops s false t (listed.setIfInBounds i true) && drawTLB ops s true r listed)) = true := by cases b <;> exact hB
      simp only [Bool.and_eq_true] at hB
      obtain ⟨_, hB1, hB2⟩ := hB
      have hl1 : dtLen t + 1 ≤ fuel := Nat.le_trans (Nat.le_max_left _ _) hl
      have hl2 : dtLen r ≤ fuel := Nat.le_trans (Nat.le_max_right _ _) hl
      cases ho : ops.toList[i]? with
      | none => rw [ho] at hq; exact hq.elim
      | some o =>
        rw [ho] at hq
        have ho' : ops[i]? = some o := by rw [← ho]; simp
        simp only at hq
        cases hkn : knownB F o.op with
        | false => rw [hkn] at hq; exact hq.elim
        | true =>
          rw [hkn] at hq
          simp only [cond_true] at hq
          have hfit : fitsB n o = true := (Bool.and_eq_true _ _ ▸ hb i o ho' : fitsB n o = true ∧ _).1
          rcases List.mem_cons.1 hj with rfl | hj
          · refine acts j o S listed fuel F a w _ ho' hkn hS hR hk (fun S' v w' hS' h' => ?_) hq.fst
            rw [putK_eq] at h'
            exact (iht S' _ fuel _ _ w' (hcl.set hjr) hS' (hR.put hfit v) (Keep.put hR hk hfit (hd j o ho') v)).1 hB1 hl1 h'
          · exact (ihr S listed fuel F a w hcl hS hR hk).2 hB2 hl2 hq.snd j hj hjr
    intro S listed fuel F a w hcl hS hR hk
    refine ⟨fun hB hl h => ?_, fun hB hl h => both true S listed fuel F a w hcl hS hR hk hB hl h⟩
    cases fuel with
    | zero => simp at hl
    | succ fuel =>
      have hB' : (!Nat.beq i s && ((Region.ready .any ops listed).contains i && (false || (Region.ready .any ops listed).all fun j => (i :: alts r).any (Nat.beq j))) && (drawTLB ops s false t (listed.setIfInBounds i true) && drawTLB ops s true r listed)) = true := hB
      simp only [Bool.and_eq_true, Bool.false_or] at hB'
      obtain ⟨⟨_, h1, h2⟩, _⟩ := hB'
      refine ⟨fun he => absurd h1 (by rw [he]; simp), fun j hj => ?_⟩
      have hm := List.all_eq_true.1 h2 j hj
      exact both false S listed fuel F a w hcl hS hR hk hB (by omega) h j (any_beq_mem hm) hj
end

theorem getAll_slots {n : Nat} {a : Act} {F : Fr} (hR : Rel n a F) : ∀ (cs : List Nat) (vs : List Value), getAll F cs = some vs → vs = cs.map fun c => a.tmps.getD c undef
  | [], vs, h => by simp [getAll] at h; subst h; rfl
  | c :: cs, vs, h => by
    simp only [getAll] at h
    cases hc : getO F c with
    | none => rw [hc] at h; cases h
    | some v =>
      rw [hc] at h
      simp only at h
      cases hg : getAll F cs with
      | none => rw [hg] at h; cases h
      | some us =>
        rw [hg] at h
        simp only [Option.some.injEq] at h
        subst h
        rw [List.map_cons, ← getAll_slots hR cs us hg, hR.slot c v hc]

theorem Rel.bind {n : Nat} {a : Act} : ∀ (cs : List Nat) (G : Fr) (k : Fr → Prop), Rel n a G → bindK cs (cs.map fun c => a.tmps.getD c undef) G k → ∃ F, Rel n a F ∧ k F
  | [], G, k, hR, h => ⟨G, hR, h⟩
  | c :: cs, G, k, hR, h => by
    simp only [List.map_cons, bindK, List.headD_cons, List.tail_cons] at h
    refine Rel.bind cs _ k ⟨hR.defers, hR.size, fun t v hv => ?_⟩ h
    simp only [getO] at hv
    cases hb : Nat.beq c t with
    | true =>
      rw [hb] at hv
      have : c = t := Nat.eq_of_beq_eq_true hb
      subst this
      simpa using hv
    | false =>
      rw [hb] at hv
      exact hR.slot t v hv

theorem any_beq {ds : List Nat} (x : Nat) : ds.any (Nat.beq x ·) = true ↔ x ∈ ds := by
  rw [List.any_eq_true]
  constructor
  · rintro ⟨y, hy, hb⟩; rw [Nat.eq_of_beq_eq_true hb]; exact hy
  · intro hx; exact ⟨x, hx, Nat.beq_refl x⟩

theorem getO_cons (s : Nat) (u : Value) (r : Fr) (t : Nat) : getO ((s, u) :: r) t = if s = t then some u else getO r t := by
  simp only [getO]
  by_cases h : s = t
  · subst h; simp
  · have : Nat.beq s t = false := by rw [← Bool.not_eq_true, Nat.beq_eq]; exact h
    rw [this, if_neg h]; rfl

theorem dropK_spec {ds : List Nat} : ∀ (F G : Fr) (k : Fr → Prop), dropK ds F G k → ∃ H, k H ∧ ∀ t v, getO H t = some v → getO G t = some v ∨ (getO G t = none ∧ t ∉ ds ∧ getO F t = some v)
  | [], G, k, h => ⟨G, h, fun t v hv => .inl hv⟩
  | (s, u) :: r, G, k, h => by
    simp only [dropK] at h
    cases hb : ds.any (Nat.beq s ·) with
    | true =>
      rw [hb] at h
      obtain ⟨H, hk, hs⟩ := dropK_spec r G k h
      refine ⟨H, hk, fun t v hv => (hs t v hv).imp_right fun ⟨h1, h2, h3⟩ => ⟨h1, h2, ?_⟩⟩
      rw [getO_cons, if_neg (fun e : s = t => h2 (e ▸ (any_beq s).1 hb))]
      exact h3
    | false =>
      have hsd : s ∉ ds := fun hm => by rw [(any_beq s).2 hm] at hb; cases hb
      rw [hb] at h
      simp only [cond_false] at h
      cases hg : getO G s with
      | some z =>
        rw [hg] at h
        obtain ⟨H, hk, hs⟩ := dropK_spec r G k h
        refine ⟨H, hk, fun t v hv => (hs t v hv).imp_right fun ⟨h1, h2, h3⟩ => ⟨h1, h2, ?_⟩⟩
        rw [getO_cons, if_neg (fun e : s = t => by subst e; rw [hg] at h1; cases h1)]
        exact h3
      | none =>
        rw [hg] at h
        obtain ⟨H, hk, hs⟩ := dropK_spec r _ k h
        refine ⟨H, hk, fun t v hv => ?_⟩
        have h0 := hs t v hv
        rw [getO_cons] at h0 ⊢
        by_cases hst : s = t
        · subst hst
          simp only [if_true] at h0 ⊢
          rcases h0 with h0 | h0
          · exact .inr ⟨hg, hsd, h0⟩
          · exact absurd h0.1 (by simp)
        · simp only [if_neg hst] at h0 ⊢
          exact h0

theorem Rel.dropped {n : Nat} {a0 a : Act} {ds : List Nat} {F H : Fr} (hR : Rel n a0 F) (hd : a.defers = []) (hs : a.tmps.size = n) (hk : Keep ds a0 a)
    (hH : ∀ t v, getO H t = some v → getO [] t = some v ∨ (getO [] t = none ∧ t ∉ ds ∧ getO F t = some v)) : Rel n a H :=
  ⟨hd, hs, fun t v hv => by
    rcases hH t v hv with h | ⟨_, h1, h2⟩
    · simp [getO] at h
    · rw [hk t h1]; exact hR.slot t v h2⟩

def Post (n : Nat) (ds : List Nat) (a0 : Act) (Q : Exit → Fr → World → Prop) : Exit → Act → World → Prop
  | .normal, a, w => ∃ F, Rel n a F ∧ Keep ds a0 a ∧ Q .normal F w
  | .exit id, a, w => ∃ F, Rel n a F ∧ Keep ds a0 a ∧ Q (.exit id) F w
  | .ret, a, w => ∃ F, Rel n a F ∧ Q .ret F w
  | _, _, _ => False

theorem Post.mono {n : Nat} {ds es : List Nat} {a0 a1 : Act} {Q : Exit → Fr → World → Prop} (hs : ∀ t, t ∈ ds → t ∈ es) (hk : Keep es a0 a1) : ∀ e a w, Post n ds a1 Q e a w → Post n es a0 Q e a w
  | .normal, _, _, ⟨F, hR, h, hq⟩ => ⟨F, hR, hk.trans (h.mono hs), hq⟩
  | .exit _, _, _, ⟨F, hR, h, hq⟩ => ⟨F, hR, hk.trans (h.mono hs), hq⟩
  | .ret, _, _, h => h
  | .goto _, _, _, h => h
  | .panic _, _, _, h => h
  | .outgrown, _, _, h => h

theorem tr_sound {P : Program} {n : Nat} (hm : P.follows .mixedOrders = true) : ∀ (c : Code) (p : Plan) (Q : Exit → Fr → World → Prop) (F : Fr) (a : Act) (w : World),
    okB P n c p = true → Rel n a F → tr P n c p Q F w → c.wp P (Post n (dsts c) a Q) a w := by
  intro c
  induction c with
  | skip => exact fun p Q F a w _ hR h => wp_skip ⟨F, hR, Keep.refl _ _, by cases p <;> exact h⟩
  | ret => exact fun p Q F a w _ hR h => wp_ret ⟨F, hR, by cases p <;> exact h⟩
  | exit id => exact fun p Q F a w _ hR h => wp_exit ⟨F, hR, Keep.refl _ _, by cases p <;> exact h⟩
  | region id ops draw =>
    intro p Q F a w hB hR h
    have hmem : ∀ o ∈ ops.toList, ∀ d, o.dst = some d → d ∈ dsts (.region id ops draw) := fun o ho d hd => List.mem_filterMap.2 ⟨o, ho, hd⟩
    cases draw with
    | false =>
      have hB' : ops.toList.all (opB P n) = true := by cases p <;> exact hB
      have h' : trOps P n ops.toList ops.toList (Q .normal) F w := by cases p <;> exact h
      exact wp_region_list (trOps_sound (K := Q .normal) (a0 := a) (fun a' F' w' h1 h2 h3 => ⟨F', h1, h2, h3⟩) ops.toList F a w hmem hB' hR (Keep.refl _ _) h')
    | true =>
      cases p with
      | draw l =>
        simp only [okB, Bool.and_eq_true] at hB
        obtain ⟨hB1, hB2, hB3, hB4⟩ := hB
        simp only [tr] at h
        obtain ⟨S, hS, h⟩ := h.out
        refine wp_region_held hm (S := S) ?_
        refine trDraw_sound (K := Q .normal) (a0 := a) (ds := dsts (.region id ops true)) (fun a' F' w' h1 h2 h3 => ⟨F', h1, h2, h3⟩) (fun c a w h => h) (fun i o ho => hmem o ?_) (fun i o ho => ?_) hB2 l S _ _ F a _ hB3 (Nat.le_of_ble_eq_true hB4) hS hR (Keep.refl _ _) h
        · exact Array.mem_toList_iff.2 (Array.mem_of_getElem? ho)
        · exact List.all_eq_true.1 hB1 o (Array.mem_toList_iff.2 (Array.mem_of_getElem? ho))
      | drawL l s =>
        simp only [okB, Bool.and_eq_true] at hB
        obtain ⟨hB1, hB2, hB3, hB4, hB5⟩ := hB
        simp only [tr] at h
        obtain ⟨S, hS, h⟩ := h.out
        refine wp_region_any hm (wpAny_of_wpL (s := s) (S := S) _ _ _ _ ?_)
        refine trDrawL_sound (s := s) (a0 := a) (ds := dsts (.region id ops true)) hB4 (fun listed a' F' w' hr he hR' hk' hK S' m => ?_) (fun c a w h => h) (fun i o ho => hmem o ?_) (fun i o ho => ?_) hB2 l S _ _ F a _ (Closed.start _ _) hB3 (Nat.le_of_ble_eq_true hB5) hS hR (Keep.refl _ _) h
        · cases ho : ops[s]? with
          | none => rw [ho] at hK; exact hK.elim
          | some o =>
            rw [ho] at hK
            have hmo : o ∈ ops.toList := Array.mem_toList_iff.2 (Array.mem_of_getElem? ho)
            exact last_sound (K := Q .normal) (a0 := a) ho hr he (List.all_eq_true.1 hB1 o hmo) (hmem o hmo) (fun a' F' w' h1 h2 h3 => ⟨F', h1, h2, h3⟩) hR' hk' hK S' m
        · exact Array.mem_toList_iff.2 (Array.mem_of_getElem? ho)
        · exact List.all_eq_true.1 hB1 o (Array.mem_toList_iff.2 (Array.mem_of_getElem? ho))
      | drawTL t s =>
        simp only [okB, Bool.and_eq_true] at hB
        obtain ⟨hB1, hB2, hB3, hB4, hB5⟩ := hB
        simp only [tr] at h
        obtain ⟨S, hS, h⟩ := h.out
        refine wp_region_any hm (wpAny_of_wpL (s := s) (S := S) _ _ _ _ ?_)
        refine (trDTL_sound (s := s) (a0 := a) (ds := dsts (.region id ops true)) hB4 (fun listed a' F' w' hr he hR' hk' hK S' m => ?_) (fun c a w h => h) (fun i o ho => hmem o ?_) (fun i o ho => ?_) hB2 t S _ _ F a _ (Closed.start _ _) hS hR (Keep.refl _ _)).1 hB3 (Nat.le_of_ble_eq_true hB5) h
        · cases ho : ops[s]? with
          | none => rw [ho] at hK; exact hK.elim
          | some o =>
            rw [ho] at hK
            have hmo : o ∈ ops.toList := Array.mem_toList_iff.2 (Array.mem_of_getElem? ho)
            exact last_sound (K := Q .normal) (a0 := a) ho hr he (List.all_eq_true.1 hB1 o hmo) (hmem o hmo) (fun a' F' w' h1 h2 h3 => ⟨F', h1, h2, h3⟩) hR' hk' hK S' m
        · exact Array.mem_toList_iff.2 (Array.mem_of_getElem? ho)
        · exact List.all_eq_true.1 hB1 o (Array.mem_toList_iff.2 (Array.mem_of_getElem? ho))
      | drawT t =>
        simp only [okB, Bool.and_eq_true] at hB
        obtain ⟨hB1, hB2, hB3, hB4⟩ := hB
        simp only [tr] at h
        obtain ⟨S, hS, h⟩ := h.out
        refine wp_region_held hm (S := S) ?_
        refine (trDT_sound (K := Q .normal) (a0 := a) (ds := dsts (.region id ops true)) (fun a' F' w' h1 h2 h3 => ⟨F', h1, h2, h3⟩) (fun c a w h => h) (fun i o ho => hmem o ?_) (fun i o ho => ?_) hB2 t S _ _ F a _ hS hR (Keep.refl _ _)).1 hB3 (Nat.le_of_ble_eq_true hB4) h
        · exact Array.mem_toList_iff.2 (Array.mem_of_getElem? ho)
        · exact List.all_eq_true.1 hB1 o (Array.mem_toList_iff.2 (Array.mem_of_getElem? ho))
      | leaf => exact h.elim
      | one _ => exact h.elim
      | two _ _ => exact h.elim
      | join _ _ _ => exact h.elim
      | loop _ _ => exact h.elim
  | seq x y ihx ihy =>
    intro p Q F a w hB hR h
    cases p with
    | two p q =>
      simp only [okB, Bool.and_eq_true] at hB
      simp only [tr] at h
      refine wp_seq (wp_mono (ihx p _ F a w hB.1 hR h) fun e a1 w1 hp => ?_)
      cases e with
      | normal =>
        obtain ⟨F1, hR1, hk1, h1⟩ := hp
        exact wp_mono (ihy q Q F1 a1 w1 hB.2 hR1 h1) (Post.mono (fun t ht => List.mem_append_right _ ht) (hk1.mono fun t ht => List.mem_append_left _ ht))
      | exit id =>
        obtain ⟨F1, hR1, hk1, h1⟩ := hp
        exact ⟨F1, hR1, hk1.mono fun t ht => List.mem_append_left _ ht, h1⟩
      | ret => exact hp
      | goto _ => exact hp.elim
      | panic _ => exact hp.elim
      | outgrown => exact hp.elim
    | join cs p q =>
      simp only [okB, Bool.and_eq_true] at hB
      simp only [tr] at h
      obtain ⟨G, h, hG⟩ := dropK_spec F [] _ h
      replace h := h.out
      refine wp_seq (wp_mono (ihx p _ F a w hB.1 hR h) fun e a1 w1 hp => ?_)
      cases e with
      | normal =>
        obtain ⟨F1, hR1, hk1, h1⟩ := hp
        simp only [jump] at h1
        cases hg : getAll F1 cs with
        | none => rw [hg] at h1; exact h1.elim
        | some vs =>
          rw [hg] at h1
          have hvs := getAll_slots hR1 cs vs hg
          subst hvs
          obtain ⟨F2, hR2, h2⟩ := Rel.bind cs G _ (hR.dropped hR1.defers hR1.size hk1 hG) h1
          exact wp_mono (ihy q Q F2 a1 w1 hB.2 hR2 h2) (Post.mono (fun t ht => List.mem_append_right _ ht) (hk1.mono fun t ht => List.mem_append_left _ ht))
      | exit id =>
        obtain ⟨F1, hR1, hk1, h1⟩ := hp
        exact ⟨F1, hR1, hk1.mono fun t ht => List.mem_append_left _ ht, h1⟩
      | ret => exact hp
      | goto _ => exact hp.elim
      | panic _ => exact hp.elim
      | outgrown => exact hp.elim
    | leaf => exact h.elim
    | one _ => exact h.elim
    | loop _ _ => exact h.elim
    | draw _ => exact h.elim
    | drawL _ _ => exact h.elim
    | drawT _ => exact h.elim
    | drawTL _ _ => exact h.elim
  | cond v x y ihx ihy =>
    intro p Q F a w hB hR h
    cases p with
    | two p q =>
      simp only [okB, Bool.and_eq_true] at hB
      simp only [tr] at h
      cases hv : evO F v with
      | none => rw [hv] at h; exact h.elim
      | some u =>
        rw [hv] at h
        obtain ⟨b, hb, h1, h2⟩ := h.out
        have he : a.eval v = .bool b := by
          rw [hR.evalx (by rw [hv]; rfl)]
          simp [ev, hv, hb]
        cases b with
        | true => exact wp_cond_true he (wp_mono (ihx p Q F a w hB.1 hR (h1 rfl)) (Post.mono (fun t ht => List.mem_append_left _ ht) (Keep.refl _ _)))
        | false => exact wp_cond_false he (wp_mono (ihy q Q F a w hB.2 hR (h2 rfl)) (Post.mono (fun t ht => List.mem_append_right _ ht) (Keep.refl _ _)))
    | leaf => exact h.elim
    | one _ => exact h.elim
    | join _ _ _ => exact h.elim
    | loop _ _ => exact h.elim
    | draw _ => exact h.elim
    | drawL _ _ => exact h.elim
    | drawT _ => exact h.elim
    | drawTL _ _ => exact h.elim
  | block id x ih =>
    intro p Q F a w hB hR h
    cases p with
    | one p =>
      simp only [okB] at hB
      simp only [tr] at h
      refine wp_block (wp_mono (ih p _ F a w hB hR h) fun e a1 w1 hp => ?_)
      cases e with
      | normal => exact hp
      | exit id' =>
        obtain ⟨F1, hR1, hk1, h1⟩ := hp
        simp only [Exit.inBlock]
        by_cases hid : id' = id
        · subst hid
          simp only [Nat.beq_refl, cond_true] at h1
          rw [if_pos rfl]
          exact ⟨F1, hR1, hk1, h1⟩
        · have : Nat.beq id' id = false := by rw [← Bool.not_eq_true, Nat.beq_eq]; exact hid
          simp only [this, cond_false] at h1
          rw [if_neg hid]
          exact ⟨F1, hR1, hk1, h1⟩
      | ret => exact hp
      | goto _ => exact hp.elim
      | panic _ => exact hp.elim
      | outgrown => exact hp.elim
    | leaf => exact h.elim
    | two _ _ => exact h.elim
    | join _ _ _ => exact h.elim
    | loop _ _ => exact h.elim
    | draw _ => exact h.elim
    | drawL _ _ => exact h.elim
    | drawT _ => exact h.elim
    | drawTL _ _ => exact h.elim
  | loop x ih =>
    intro p Q F a w hB hR h
    cases p with
    | loop cs p =>
      simp only [okB] at hB
      simp only [tr] at h
      cases hg : getAll F cs with
      | none => rw [hg] at h; exact h.elim
      | some vs =>
        rw [hg] at h
        obtain ⟨G, h, hG⟩ := dropK_spec F [] _ h
        obtain ⟨I, μ, h0, hround⟩ := h.out
        have hvs := getAll_slots hR cs vs hg
        subst hvs
        refine wp_loop (fun a' w' => I (cs.map fun c => a'.tmps.getD c undef) w' ∧ a'.defers = [] ∧ a'.tmps.size = n ∧ Keep (dsts x) a a') (fun a' w' => μ (cs.map fun c => a'.tmps.getD c undef) w')
          ⟨h0, hR.defers, hR.size, Keep.refl _ _⟩ fun a' w' hI => ?_
        obtain ⟨hI, hd, hs, hk⟩ := hI
        obtain ⟨F2, hR2, h2⟩ := Rel.bind cs G _ (hR.dropped hd hs hk hG) (hround _ _ hI)
        refine wp_mono (ih p _ F2 a' w' hB hR2 h2) fun e a1 w1 hp => ?_
        cases e with
        | normal =>
          obtain ⟨F1, hR1, hk1, h1⟩ := hp
          simp only [jump] at h1
          cases hg1 : getAll F1 cs with
          | none => rw [hg1] at h1; exact h1.elim
          | some us =>
            rw [hg1] at h1
            have hus := getAll_slots hR1 cs us hg1
            subst hus
            exact ⟨⟨h1.1, hR1.defers, hR1.size, hk.trans hk1⟩, h1.2⟩
        | exit id =>
          obtain ⟨F1, hR1, hk1, h1⟩ := hp
          exact ⟨F1, hR1, hk.trans hk1, h1⟩
        | ret => exact hp
        | goto _ => exact hp.elim
        | panic _ => exact hp.elim
        | outgrown => exact hp.elim
    | leaf => exact h.elim
    | one _ => exact h.elim
    | two _ _ => exact h.elim
    | join _ _ _ => exact h.elim
    | draw _ => exact h.elim
    | drawL _ _ => exact h.elim
    | drawT _ => exact h.elim
    | drawTL _ _ => exact h.elim
  | rangeFunc f ps as b ih1 ih2 => exact fun p Q F a w _ _ h => by cases p <;> exact h.elim
  | scope b ih => exact fun p Q F a w _ _ h => by cases p <;> exact h.elim
  | label l => exact fun p Q F a w _ _ h => by cases p <;> exact h.elim
  | goto l => exact fun p Q F a w _ _ h => by cases p <;> exact h.elim
  | refuse why => exact fun p Q F a w _ _ h => by cases p <;> exact h.elim

def argF : Nat → List Value → Fr
  | _, [] => []
  | i, v :: r => (i, v) :: argF (i + 1) r

def retVals (P : Program) : List ResultVar → Fr → (List Value → Prop) → World → Prop
  | [], _, K, _ => K []
  | .tmp t :: r, F, K, w => match getO F t with
    | some v => retVals P r F (fun vs => K (v :: vs)) w
    | none => False
  | .cell t ty :: r, F, K, w => match getO F t with
    | some v => ∃ x, (do loadVar ty (← asAddr v) : Sem Value).run P w = .ok x w ∧ retVals P r F (fun vs => K (x :: vs)) w
    | none => False
def one (vs : List Value) : Value := match vs with
  | [v] => v
  | vs => .tuple vs.toArray
def retQ (P : Program) (rs : Array ResultVar) (R : Value → World → Prop) : Exit → Fr → World → Prop
  | .normal, F, w => retVals P rs.toList F (fun vs => R (one vs) w) w
  | .ret, F, w => retVals P rs.toList F (fun vs => R (one vs) w) w
  | _, _, _ => False

theorem retVals_sound {P : Program} {n : Nat} {a : Act} {F : Fr} {w : World} (hR : Rel n a F) : ∀ (rs : List ResultVar) (K : List Value → Prop), retVals P rs F K w →
    ∃ vs, (rs.mapM (fun | .tmp t => pure (a.tmps.getD t undef) | .cell x t => do loadVar t (← asAddr (a.tmps.getD x undef)) : ResultVar → Sem Value)).run P w = .ok vs w ∧ K vs
  | [], K, h => ⟨[], by simp, h⟩
  | .tmp t :: r, K, h => by
    simp only [retVals] at h
    cases hv : getO F t with
    | none => rw [hv] at h; exact h.elim
    | some v =>
      rw [hv] at h
      obtain ⟨vs, h1, h2⟩ := retVals_sound hR r _ h
      refine ⟨v :: vs, ?_, h2⟩
      rw [List.mapM_cons]
      simp only [Sem.run_bind, Sem.run_pure, Result.andThen_ok, h1, hR.slot t v hv]
  | .cell t ty :: r, K, h => by
    simp only [retVals] at h
    cases hv : getO F t with
    | none => rw [hv] at h; exact h.elim
    | some v =>
      rw [hv] at h
      obtain ⟨x, hx, h⟩ := h
      obtain ⟨vs, h1, h2⟩ := retVals_sound hR r _ h
      refine ⟨x :: vs, ?_, h2⟩
      rw [List.mapM_cons]
      have hx' := hx
      rw [← hR.slot t v hv] at hx'
      rw [Sem.run_bind, hx']
      simp only [Result.andThen_ok, Sem.run_bind, Sem.run_pure, h1]

theorem results_fin {P : Program} {w : World} {m : Sem (List Value)} {vs : List Value} (h : m.run P w = .ok vs w) :
    ((Sem.run P (List.toArray <$> m) w).andThen fun a w' => Result.ok (if h : a.size = 1 then a[0] else Value.tuple a) w') = Result.ok (one vs) w := by
  rw [map_eq_pure_bind, Sem.run_bind, h]
  simp only [Result.andThen_ok, Sem.run_pure, Result.ok.injEq, and_true]
  match vs with
  | [] => rfl
  | [v] => rfl
  | v :: u :: r => simp [one]

theorem results_sound {P : Program} {n : Nat} {a : Act} {F : Fr} {w : World} {fn : Func} {R : Value → World → Prop} (hR : Rel n a F) (h : retVals P fn.results.toList F (fun vs => R (one vs) w) w) :
    ∃ v, (results fn a.tmps).run P w = .ok v w ∧ R v w := by
  obtain ⟨vs, h1, h2⟩ := retVals_sound hR _ _ h
  refine ⟨one vs, ?_, h2⟩
  unfold results
  rw [Array.mapM_eq_mapM_toList]
  simp only [Sem.run_bind, Sem.run_pure]
  exact results_fin h1

theorem argF_get : ∀ (args : List Value) (i t : Nat) (v : Value), getO (argF i args) t = some v → i ≤ t ∧ args[t - i]? = some v
  | [], i, t, v, h => by simp [argF, getO] at h
  | u :: r, i, t, v, h => by
    simp only [argF, getO] at h
    cases hb : Nat.beq i t with
    | true =>
      rw [hb] at h
      have : i = t := Nat.eq_of_beq_eq_true hb
      subst this
      exact ⟨Nat.le_refl _, by simpa using h⟩
    | false =>
      rw [hb] at h
      obtain ⟨h1, h2⟩ := argF_get r (i + 1) t v h
      refine ⟨by omega, ?_⟩
      rw [show t - i = (t - (i + 1)) + 1 by omega]
      simpa using h2

/-- A call's contract out of its shallow text. -/
theorem calls_of_tr {P : Program} {f : FuncId} {fn : Func} {c : Code} {n : Nat} (p : Plan) (hf : P.funcs[f]? = some fn) (hb : fn.body = some c) (hn : fn.ntmps = n) (hm : P.follows .mixedOrders = true) (hok : okB P n c p = true)
    (args : List Value) (ha : Nat.ble args.length n = true) {R : Value → World → Prop} {w : World} (h : tr P n c p (retQ P fn.results R) (argF 0 args) w) :
    Calls P f args.toArray w fun e w' => ∃ v, e = .returned v ∧ R v w' := by
  have hle := Nat.le_of_ble_eq_true ha
  refine calls_of_wp hf hb ?_
  refine wp_mono (tr_sound hm c p _ (argF 0 args) _ w hok ⟨rfl, ?_, fun t v hv => ?_⟩ h) fun e a' w' hp => ?_
  · simp [hn]; omega
  · obtain ⟨_, h1⟩ := argF_get args 0 t v hv
    simp only [Nat.sub_zero] at h1
    have hlt : t < args.length := (List.getElem?_eq_some_iff.1 h1).1
    simp only [Array.getD_eq_getD_getElem?]
    rw [Array.getElem?_append_left (by simpa using hlt)]
    simp [h1]
  · cases e with
    | normal =>
      obtain ⟨F, hR, _, hq⟩ := hp
      obtain ⟨v, hr, hv⟩ := results_sound hR hq
      exact ⟨hR.defers, v, hr, v, rfl, hv⟩
    | ret =>
      obtain ⟨F, hR, hq⟩ := hp
      obtain ⟨v, hr, hv⟩ := results_sound hR hq
      exact ⟨hR.defers, v, hr, v, rfl, hv⟩
    | exit id => obtain ⟨F, _, _, hq⟩ := hp; exact hq.elim
    | goto _ => exact hp.elim
    | panic _ => exact hp.elim
    | outgrown => exact hp.elim

end Go.Proofs.Ythicbfopjakiiaa.E
namespace Go.Proofs.Ythicbfopjakiiaa.E
open Go

def bodyOf (fn : Func) : Code := fn.body.getD .skip
theorem of_eq_ {p q : Prop} (h : p = q) (hq : q) : p := h ▸ hq
/-- A result that lies in memory. -/
def RetC (P : Program) (v : Value) (t : TypeId) (K : Value → Prop) (w : World) : Prop :=
  ∃ x, (do loadVar t (← asAddr v) : Sem Value).run P w = .ok x w ∧ K x

end Go.Proofs.Ythicbfopjakiiaa.E
