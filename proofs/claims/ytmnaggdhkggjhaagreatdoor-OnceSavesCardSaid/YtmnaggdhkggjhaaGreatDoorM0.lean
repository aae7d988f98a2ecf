import Derived.Orders
import Derived.OrdersHeld
import Derived.Calls
import Derived.Tactics
namespace Go.Proofs.YtmnaggdhkggjhaaGreatDoor.E
open Go

structure LiftP (P : Program) (m : Sem Value) (K : Value → World → Prop) (w : World) : Prop where
  mk :: (out : ∃ v w', m.run P w = .ok v w' ∧ K v w')
structure LiftU (P : Program) (m : Sem Unit) (K : Value → World → Prop) (w : World) : Prop where
  mk :: (out : ∃ w', m.run P w = .ok () w' ∧ K undef w')
structure CallP (P : Program) (f : FuncId) (args : Array Value) (K : Value → World → Prop) (w : World) : Prop where
  mk :: (out : Calls P f args w fun e w' => ∃ v, e = .returned v ∧ K v w')
def NextB (P : Program) (K : Value → World → Prop) (r : Result Next) : Prop := match r with
  | .ok (.value v) w' => K v w'
  | .ok .skip w' => K undef w'
  | .ok (.enter f args) w' => CallP P f args K w'
  | _ => False
structure NextP (P : Program) (m : Sem Next) (K : Value → World → Prop) (w : World) : Prop where
  mk :: (out : NextB P K (m.run P w))
structure PickP (c x y : Value) (K : Value → World → Prop) (w : World) : Prop where
  mk :: (out : ∃ b, c = .bool b ∧ K (if b then x else y) w)
structure GuardP (v : Value) (want : Bool) (X : (Value → World → Prop) → World → Prop) (K : Value → World → Prop) (w : World) : Prop where
  mk :: (yes : v = .bool want → X K w) (no : v ≠ .bool want → K undef w)
structure CondP (v : Value) (X Y : World → Prop) (w : World) : Prop where
  mk :: (out : ∃ b, v = .bool b ∧ (b = true → X w) ∧ (b = false → Y w))
structure JoinP (X : (List Value → World → Prop) → World → Prop) (Y : List Value → World → Prop) (w : World) : Prop where
  mk :: (out : X Y w)
structure LoopP (body : (List Value → World → Prop) → List Value → World → Prop) (vs : List Value) (w : World) : Prop where
  mk :: (out : ∃ (I : List Value → World → Prop) (μ : List Value → World → Nat), I vs w ∧
    ∀ xs w', I xs w' → body (fun ys w'' => I ys w'' ∧ μ ys w'' < μ xs w') xs w')
/-- A region that draws: S holds behind each operation that acts; what is read is read the same in every world that meets S. -/
structure DrawP (X : (World → Prop) → World → Prop) (w : World) : Prop where
  mk :: (out : ∃ S : World → Prop, S { w with drawn := w.drawn + 1 } ∧ X S { w with drawn := w.drawn + 1 })
structure YieldP (P : Program) (S : World → Prop) (m : Sem Value) (K : Value → World → Prop) (w : World) : Prop where
  mk :: (out : ∃ v, (∀ w', S w' → m.run P w' = .ok v w') ∧ K v w)
structure YieldN (P : Program) (S : World → Prop) (m : Sem Next) (K : Value → World → Prop) (w : World) : Prop where
  mk :: (out : ∃ v, (∀ w', S w' → m.run P w' = .ok (.value v) w') ∧ K v w)
/-- An operation that acts; behind it a narrower S may be chosen. -/
structure ActP (S : World → Prop) (X : (Value → World → Prop) → World → Prop) (K : (World → Prop) → Value → World → Prop) (w : World) : Prop where
  mk :: (out : X (fun v w' => ∃ S' : World → Prop, S' w' ∧ (∀ w, S' w → S w) ∧ K S' v w') w)
/-- Both must be shown: either may be the order. -/
structure BothP (X Y : World → Prop) (w : World) : Prop where
  mk :: (fst : X w) (snd : Y w)
structure GuardA (v : Value) (want : Bool) (S : World → Prop) (X : (Value → World → Prop) → World → Prop) (K : (World → Prop) → Value → World → Prop) (w : World) : Prop where
  mk :: (yes : v = .bool want → ActP S X K w) (no : v ≠ .bool want → K S undef w)

abbrev Fr := List (Nat × Value)
def getO : Fr → Nat → Option Value
  | [], _ => none
  | (s, v) :: r, t => bif Nat.beq s t then some v else getO r t
def evO (F : Fr) : Operand → Option Value
  | .tmp t => getO F t
  | .const v => some v
  | .global g => some (.pointer (some ⟨g, 0, none⟩))
  | .func f => some (.func (.func f) #[] #[])
def ev (F : Fr) (x : Operand) : Value := (evO F x).getD undef
def put (F : Fr) (dst : Option Tmp) (v : Value) : Fr :=
  match dst with
  | some d => (d, v) :: F
  | none => F
/-- What follows is told with the frame written out: the kernel is to reckon with frames that are lists of values, not of what is still to be reckoned. -/
def putK (dst : Option Tmp) (v : Value) (F : Fr) (k : Fr → Prop) : Prop :=
  match dst with
  | some d => k ((d, v) :: F)
  | none => k F
def bindK : List Nat → List Value → Fr → (Fr → Prop) → Prop
  | [], _, G, k => k G
  | c :: cs, vs, G, k => bindK cs vs.tail ((c, vs.headD undef) :: G) k
def dropK (ds : List Nat) : Fr → Fr → (Fr → Prop) → Prop
  | [], G, k => k G
  | (s, v) :: r, G, k => bif ds.any (Nat.beq s ·) then dropK ds r G k else match getO G s with
    | some _ => dropK ds r G k
    | none => dropK ds r ((s, v) :: G) k
def getAll (F : Fr) : List Nat → Option (List Value)
  | [] => some []
  | c :: cs => match getO F c with
    | some v => match getAll F cs with
      | some vs => some (v :: vs)
      | none => none
    | none => none

/-- The orders of a region that draws: a reader next; an operation that alone may act; several that may (one after the other told, 'done' at the end). -/
inductive DT where
  | done
  | rd (i : Nat) (t : DT)
  | act (i : Nat) (t : DT)
  | alt (i : Nat) (t r : DT)
inductive Plan where
  | leaf
  | one (a : Plan)
  | two (a b : Plan)
  | join (cs : List Nat) (a b : Plan)
  | loop (cs : List Nat) (a : Plan)
  | draw (l : List (Bool × Nat))
  /-- A region that draws, whose last operation s waits for all others: behind s nothing is asked of the world. -/
  | drawL (l : List (Bool × Nat)) (s : Nat)
  | drawT (t : DT)
  /-- Several may act, and the last operation s waits for all others. -/
  | drawTL (t : DT) (s : Nat)

def dsts : Code → List Nat
  | .region _ ops _ => ops.toList.filterMap (·.dst)
  | .seq a b => dsts a ++ dsts b
  | .cond _ a b => dsts a ++ dsts b
  | .block _ a => dsts a
  | .loop a => dsts a
  | _ => []

/-- The operands of the operations that are served; none: not served. -/
def opnds : Op → Option (List Operand)
  | .move x | .assign x | .box _ x | .load _ x | .unOp _ _ x | .convert _ _ x | .makeInterface _ x | .nilCheck x
  | .fieldAddr _ x _ | .field _ x _ | .range _ x | .next x _ | .entry x | .typeAssert x _ _ _ | .extract x _ | .panic x => some [x]
  | .alloc _ => some []
  | .pick c a b => some [c, a, b]
  | .build _ ps | .buildSlice _ _ ps => some (ps.toList.map (·.2))
  | .store _ a v | .binOp _ _ a v _ | .makeSlice _ a v | .indexAddr _ a v | .index _ a v | .lookup _ a v _ | .mapEntry _ a v => some [a, v]
  | .makeFunc _ f c => some (f.toList ++ c.toList)
  | .makeMap _ r => some r.toList
  | .slice _ x l h m => some ([x] ++ l.toList ++ h.toList ++ m.toList)
  | .mapUpdate _ m k v | .entryStore _ m k v => some [m, k, v]
  | .call c => some ((match c.callee with | .value f => [f] | .invoke r _ => [r] | .builtin _ => []) ++ c.args.toList)
  | _ => none

def knownB (F : Fr) (op : Op) : Bool := match opnds op with
  | some l => l.all fun x => (evO F x).isSome
  | none => false

def callable (P : Program) (f : FuncId) : Bool := match P.funcs[f]? with
  | some fn => fn.body.isSome && !(fn.name == "runtime.NumGoroutine")
  | none => false

/-- A call that is no call of a named function. -/
def callV (fv : Value) (args : Array Value) : Sem Next := do let d ← Deferred.ofValue fv args; invoke d.target d.args
def mapA {α β : Type} (f : α → β) (xs : Array α) : Array β := (xs.toList.map f).toArray

def binS (op : BinOp) (t : TypeId) (x y : Operand) (vx vy : Value) : Sem Value := do eqGuard op t x y vx vy; binOp op t vx vy

/-- What an operation does that yields a value. -/
def semOf (op : Op) (ty : TypeId) (ρ : Operand → Value) : Option (Sem Value) := match op with
  | .alloc e => some (Instr.alloc e true (.tuple #[]))
  | .box e x => some (Instr.box e (ρ x))
  | .build t ps => some (Instr.build t (mapA (fun p => (p.1, ρ p.2)) ps))
  | .buildSlice t n ps => some (Instr.buildSlice t n (mapA (fun p => (p.1, ρ p.2)) ps))
  | .load t a => some (Instr.loadAt t (ρ a))
  | .binOp op t x y _ => some (binS op t x y (ρ x) (ρ y))
  | .unOp op _ x => some (Op.unary op (ρ x))
  | .convert s d x => some (convert s d (ρ x))
  | .makeInterface t x => some (Instr.makeInterface t (ρ x))
  | .makeFunc fn f c => some (Instr.makeFunc fn (mapA ρ f) (mapA ρ c))
  | .makeMap t r => some (Instr.makeMap t (r.map ρ))
  | .makeSlice t l c => some (Instr.makeSlice t (ρ l) (ρ c))
  | .slice t x l h m => some (Instr.sliceAt t (ρ x) (l.map ρ) (h.map ρ) (m.map ρ))
  | .fieldAddr s x f => some (Instr.fieldAt s (ρ x) f)
  | .field t x f => some (Instr.field t (ρ x) f)
  | .indexAddr t x i => some (Instr.indexAt t (ρ x) (ρ i))
  | .index t x i => some (Instr.index t (ρ x) (ρ i))
  | .lookup t x i ok => some (Instr.lookup t (ρ x) (ρ i) ok)
  | .mapEntry t m k => some (Instr.mapEntry t (ρ m) (ρ k))
  | .range t x => some (Instr.range t (ρ x))
  | .next it s => some (Instr.next (ρ it) s ty)
  | .entry it => some (Instr.entry (ρ it))
  | .typeAssert x t a ok => some (Instr.typeAssert (ρ x) t a ok)
  | .extract t i => some (Instr.extract (ρ t) i)
  | .panic x => some (Instr.panic (ρ x))
  | _ => none
def semU (op : Op) (ρ : Operand → Value) : Option (Sem Unit) := match op with
  | .store t a x => some (Instr.storeAt t (ρ a) (ρ x))
  | .mapUpdate t m k x => some (Instr.mapUpdate t (ρ m) (ρ k) (ρ x))
  | .entryStore t m s x => some (Instr.entryStore t (ρ m) (ρ s) (ρ x))
  | _ => none
/-- The rest: nil checks, built-ins, calls of values and through interfaces. -/
def nilChk (x : Value) : Sem Next := execOp (fun _ => x) { dst := none, op := .nilCheck (.const x), type := 0, pos := "", after := #[], guard := none }
def constB : Operand → Bool
  | .const _ => true
  | _ => false
def semN (op : Op) (ty : TypeId) (ρ : Operand → Value) : Option (Sem Next) := match op with
  | .nilCheck x => some (nilChk (ρ x))
  | .call { callee := .builtin b, args, argTypes } => some (builtin b argTypes ty (mapA constB args) (mapA ρ args))
  | .call { callee := .value f, args, .. } => some (callV (ρ f) (mapA ρ args))
  | .call { callee := .invoke r name, args, .. } => some (invoke (.fn (.method name) #[]) (#[ρ r] ++ mapA ρ args))
  | _ => none

/-- An operation, its guard apart. -/
def trAct (P : Program) (op : Op) (ty : TypeId) (F : Fr) (K : Value → World → Prop) (w : World) : Prop := match op with
  | .move x | .assign x => match evO F x with
    | some v => K v w
    | none => False
  | .pick c a b => PickP (ev F c) (ev F a) (ev F b) K w
  | .call { callee := .value (.func f), args, .. } => CallP P f (mapA (ev F) args) K w
  | op => match semOf op ty (ev F) with
    | some m => LiftP P m K w
    | none => match semU op (ev F) with
      | some m => LiftU P m K w
      | none => match semN op ty (ev F) with
        | some m => NextP P m K w
        | none => False
/-- A reader in a region that draws. -/
def trRead (P : Program) (S : World → Prop) (op : Op) (ty : TypeId) (F : Fr) (K : Value → World → Prop) (w : World) : Prop := match op with
  | .move x | .assign x => match evO F x with
    | some v => K v w
    | none => False
  | .pick c a b => PickP (ev F c) (ev F a) (ev F b) K w
  | .nilCheck x => YieldN P S (nilChk (ev F x)) K w
  | .call { callee := .builtin b, args, argTypes } => YieldN P S (builtin b argTypes ty (mapA constB args) (mapA (ev F) args)) K w
  | op => match semOf op ty (ev F) with
    | some m => YieldP P S m K w
    | none => False

/-- What a guard asks: the slot, the answer. -/
def guardOf (ops : List Oper) (g : Option (Nat × Bool)) : Option (Option Nat × Bool) := match g with
  | none => none
  | some (j, b) => some ((ops[j]?).bind (·.dst), b)

def guarded (ops : List Oper) (g : Option (Nat × Bool)) (F : Fr) (X : (Value → World → Prop) → World → Prop) (K : Value → World → Prop) (w : World) : Prop :=
  match guardOf ops g with
  | none => X K w
  | some (some d, b) => match getO F d with
    | some v => GuardP v b X K w
    | none => False
  | some (none, _) => False

def guardedA (ops : List Oper) (g : Option (Nat × Bool)) (F : Fr) (S : World → Prop) (X : (Value → World → Prop) → World → Prop) (K : (World → Prop) → Value → World → Prop) (w : World) : Prop :=
  match guardOf ops g with
  | none => ActP S X K w
  | some (some d, b) => match getO F d with
    | some v => GuardA v b S X K w
    | none => False
  | some (none, _) => False

def trOps (P : Program) (n : Nat) (ops : List Oper) : List Oper → (Fr → World → Prop) → Fr → World → Prop
  | [], K, F, w => K F w
  | o :: r, K, F, w => bif knownB F o.op then
      guarded ops o.guard F (trAct P o.op o.type F) (fun v w => putK o.dst v F fun F => trOps P n ops r K F w) w
    else False

def trDraw (P : Program) (n : Nat) (ops : List Oper) : List (Bool × Nat) → (World → Prop) → (Fr → World → Prop) → Fr → World → Prop
  | [], _, K, F, w => K F w
  | (rd, i) :: r, S, K, F, w => match ops[i]? with
    | none => False
    | some o => bif knownB F o.op then
        bif rd then guarded ops o.guard F (trRead P S o.op o.type F) (fun v w => putK o.dst v F fun F => trDraw P n ops r S K F w) w
        else guardedA ops o.guard F S (trAct P o.op o.type F) (fun S v w => putK o.dst v F fun F => trDraw P n ops r S K F w) w
      else False

def trDT (P : Program) (n : Nat) (ops : List Oper) : Bool → DT → (World → Prop) → (Fr → World → Prop) → Fr → World → Prop
  | false, .done, _, K, F, w => K F w
  | true, .done, _, _, _, _ => True
  | _, .rd i t, S, K, F, w => match ops[i]? with
    | none => False
    | some o => bif knownB F o.op then guarded ops o.guard F (trRead P S o.op o.type F) (fun v w => putK o.dst v F fun F => trDT P n ops false t S K F w) w else False
  | _, .act i t, S, K, F, w => match ops[i]? with
    | none => False
    | some o => bif knownB F o.op then guardedA ops o.guard F S (trAct P o.op o.type F) (fun S v w => putK o.dst v F fun F => trDT P n ops false t S K F w) w else False
  | _, .alt i t r, S, K, F, w => match ops[i]? with
    | none => False
    | some o => bif knownB F o.op then BothP (fun w => guardedA ops o.guard F S (trAct P o.op o.type F) (fun S v w => putK o.dst v F fun F => trDT P n ops false t S K F w) w) (fun w => trDT P n ops true r S K F w) w else False

def jump (J : List Value → World → Prop) (cs : List Nat) (F : Fr) (w : World) : Prop := match getAll F cs with
  | some vs => J vs w
  | none => False

def tr (P : Program) (n : Nat) : Code → Plan → (Exit → Fr → World → Prop) → Fr → World → Prop
  | .skip, _, Q, F, w => Q .normal F w
  | .ret, _, Q, F, w => Q .ret F w
  | .exit id, _, Q, F, w => Q (.exit id) F w
  | .region _ ops false, _, Q, F, w => trOps P n ops.toList ops.toList (Q .normal) F w
  | .region _ ops true, .draw l, Q, F, w => DrawP (fun S w => trDraw P n ops.toList l S (Q .normal) F w) w
  | .region _ ops true, .drawL l s, Q, F, w => DrawP (fun S w => trDraw P n ops.toList l S (fun F w => match ops[s]? with
      | some o => trOps P n ops.toList [o] (Q .normal) F w
      | none => False) F w) w
  | .region _ ops true, .drawT t, Q, F, w => DrawP (fun S w => trDT P n ops.toList false t S (Q .normal) F w) w
  | .region _ ops true, .drawTL t s, Q, F, w => DrawP (fun S w => trDT P n ops.toList false t S (fun F w => match ops[s]? with
      | some o => trOps P n ops.toList [o] (Q .normal) F w
      | none => False) F w) w
  | .seq a b, .two p q, Q, F, w => tr P n a p (fun e F w => match e with
      | .normal => tr P n b q Q F w
      | e => Q e F w) F w
  | .seq a b, .join cs p q, Q, F, w => dropK (dsts a) F [] fun G => JoinP (fun J w => tr P n a p (fun e F w => match e with
      | .normal => jump J cs F w
      | e => Q e F w) F w) (fun vs w => bindK cs vs G fun F => tr P n b q Q F w) w
  | .cond c a b, .two p q, Q, F, w => match evO F c with
    | some v => CondP v (fun w => tr P n a p Q F w) (fun w => tr P n b q Q F w) w
    | none => False
  | .block id a, .one p, Q, F, w => tr P n a p (fun e F w => match e with
      | .exit id' => bif Nat.beq id' id then Q .normal F w else Q (.exit id') F w
      | e => Q e F w) F w
  | .loop a, .loop cs p, Q, F, w => match getAll F cs with
    | some vs => dropK (dsts a) F [] fun G => LoopP (fun J vs w => bindK cs vs G fun F => tr P n a p (fun e F w => match e with
        | .normal => jump J cs F w
        | e => Q e F w) F w) vs w
    | none => False
  | _, _, _, _, _ => False

def fitsB (n : Nat) (o : Oper) : Bool := match o.dst with
  | some d => Nat.blt d n
  | none => true
def opB (P : Program) (n : Nat) (o : Oper) : Bool := fitsB n o && match o.op with
  | .call { callee := .value (.func f), .. } => callable P f
  | _ => true
def drawB (ops : Array Oper) : List (Bool × Nat) → Array Bool → Bool
  | [], listed => (Region.ready .any ops listed).isEmpty
  | (rd, i) :: r, listed => (bif rd then Region.free .any ops listed i && (Region.ready .any ops listed).contains i else decide (Region.ready .any ops listed = [i])) && drawB ops r (listed.setIfInBounds i true)
/-- The same, up to the last operation s. -/
def drawLB (ops : Array Oper) (s : Nat) : List (Bool × Nat) → Array Bool → Bool
  | [], listed => decide (Region.ready .any ops listed = [s]) && (Region.ready .any ops (listed.setIfInBounds s true)).isEmpty
  | (rd, i) :: r, listed => !Nat.beq i s && (bif rd then Region.free .any ops listed i && (Region.ready .any ops listed).contains i else decide (Region.ready .any ops listed = [i])) && drawLB ops s r (listed.setIfInBounds i true)
def directB (ops : Array Oper) (k : Nat) : List Nat := match ops[k]? with
  | some o => (o.after.toList.filter (Region.binds .any)).map (·.on)
  | none => []
def stepB (ops : Array Oper) (l : List Nat) : List Nat := (List.range ops.size).filter fun k => l.any (Nat.beq k) || l.any fun j => (directB ops j).any (Nat.beq k)
def closeB (ops : Array Oper) : Nat → List Nat → List Nat
  | 0, l => l
  | n + 1, l => closeB ops n (stepB ops l)
/-- Operation s waits, through others or not, for all others. -/
def coverB (ops : Array Oper) (s : Nat) : Bool := (List.range ops.size).all fun i => Nat.beq i s || (closeB ops ops.size (directB ops s)).any (Nat.beq i)
def alts : DT → List Nat
  | .alt i _ r => i :: alts r
  | _ => []
def dtLen : DT → Nat
  | .done => 0
  | .rd _ t => dtLen t + 1
  | .act _ t => dtLen t + 1
  | .alt _ t r => max (dtLen t + 1) (dtLen r)
def drawTB (ops : Array Oper) : Bool → DT → Array Bool → Bool
  | false, .done, listed => (Region.ready .any ops listed).isEmpty
  | true, .done, _ => true
  | _, .rd i t, listed => Region.free .any ops listed i && (Region.ready .any ops listed).contains i && drawTB ops false t (listed.setIfInBounds i true)
  | _, .act i t, listed => decide (Region.ready .any ops listed = [i]) && drawTB ops false t (listed.setIfInBounds i true)
  | b, .alt i t r, listed => (Region.ready .any ops listed).contains i && (b || (Region.ready .any ops listed).all fun j => (i :: alts r).any (Nat.beq j)) && (drawTB ops false t (listed.setIfInBounds i true) && drawTB ops true r listed)
def drawTLB (ops : Array Oper) (s : Nat) : Bool → DT → Array Bool → Bool
  | false, .done, listed => decide (Region.ready .any ops listed = [s]) && (Region.ready .any ops (listed.setIfInBounds s true)).isEmpty
  | true, .done, _ => true
  | _, .rd i t, listed => !Nat.beq i s && (Region.free .any ops listed i && (Region.ready .any ops listed).contains i) && drawTLB ops s false t (listed.setIfInBounds i true)
  | _, .act i t, listed => !Nat.beq i s && decide (Region.ready .any ops listed = [i]) && drawTLB ops s false t (listed.setIfInBounds i true)
  | b, .alt i t r, listed => !Nat.beq i s && ((Region.ready .any ops listed).contains i && (b || (Region.ready .any ops listed).all fun j => (i :: alts r).any (Nat.beq j))) && (drawTLB ops s false t (listed.setIfInBounds i true) && drawTLB ops s true r listed)
def okB (P : Program) (n : Nat) : Code → Plan → Bool
  | .region _ ops false, _ => ops.toList.all (opB P n)
  | .region _ ops true, .draw l => ops.toList.all (opB P n) && (Region.noSelect ops && (drawB ops l (Array.replicate ops.size false) && Nat.ble l.length ops.size))
  | .region _ ops true, .drawL l s => ops.toList.all (opB P n) && (Region.noSelect ops && (drawLB ops s l (Array.replicate ops.size false) && (coverB ops s && Nat.ble (l.length + 1) ops.size)))
  | .region _ ops true, .drawT t => ops.toList.all (opB P n) && (Region.noSelect ops && (drawTB ops false t (Array.replicate ops.size false) && Nat.ble (dtLen t) ops.size))
  | .region _ ops true, .drawTL t s => ops.toList.all (opB P n) && (Region.noSelect ops && (drawTLB ops s false t (Array.replicate ops.size false) && (coverB ops s && Nat.ble (dtLen t + 1) ops.size)))
  | .seq a b, .two p q => okB P n a p && okB P n b q
  | .seq a b, .join _ p q => okB P n a p && okB P n b q
  | .cond _ a b, .two p q => okB P n a p && okB P n b q
  | .block _ a, .one p => okB P n a p
  | .loop a, .loop _ p => okB P n a p
  | .region .., _ => false
  | _, _ => true

end Go.Proofs.YtmnaggdhkggjhaaGreatDoor.E
namespace Go.Proofs.YtmnaggdhkggjhaaGreatDoor.E
open Go

structure Rel (n : Nat) (a : Act) (F : Fr) : Prop where
  defers : a.defers = []
  size : a.tmps.size = n
  slot : ∀ t v, getO F t = some v → a.tmps.getD t undef = v

def Keep (ds : List Nat) (a a' : Act) : Prop := ∀ t, t ∉ ds → a'.tmps.getD t undef = a.tmps.getD t undef
theorem Keep.refl (ds : List Nat) (a : Act) : Keep ds a a := fun _ _ => rfl
theorem Keep.trans {ds : List Nat} {a b c : Act} (h : Keep ds a b) (k : Keep ds b c) : Keep ds a c := fun t ht => (k t ht).trans (h t ht)
theorem Keep.mono {ds es : List Nat} {a b : Act} (h : Keep ds a b) (hs : ∀ t, t ∈ ds → t ∈ es) : Keep es a b := fun t ht => h t (fun hd => ht (hs t hd))

theorem getD_put (a : Act) (d : Nat) (v : Value) (t : Nat) (hd : d < a.tmps.size) : (a.put (some d) v).tmps.getD t undef = if d = t then v else a.tmps.getD t undef := by
  simp only [Act.put]
  by_cases h : d = t
  · subst h; simp [hd]
  · simp [Array.getElem?_setIfInBounds_ne h, h]

theorem Rel.put {n : Nat} {a : Act} {F : Fr} (h : Rel n a F) {o : Oper} (hd : fitsB n o = true) (v : Value) : Rel n (a.put o.dst v) (put F o.dst v) := by
  cases ho : o.dst with
  | none => simpa [Act.put, E.put] using h
  | some d =>
    have hlt : d < a.tmps.size := by
      rw [h.size]
      simpa [fitsB, ho, Nat.blt_eq] using hd
    refine ⟨by simpa [Act.put] using h.defers, by simpa [Act.put] using h.size, fun t u hu => ?_⟩
    rw [getD_put a d v t hlt]
    simp only [E.put, getO] at hu
    by_cases hdt : d = t
    · subst hdt
      simp at hu
      simpa using hu
    · have : Nat.beq d t = false := by rw [← Bool.not_eq_true, Nat.beq_eq]; exact hdt
      rw [this] at hu
      rw [if_neg hdt]
      exact h.slot t u hu

theorem Keep.put {ds : List Nat} {n : Nat} {a0 a : Act} {F : Fr} (hR : Rel n a F) (h : Keep ds a0 a) {o : Oper} (hf : fitsB n o = true) (hd : ∀ d, o.dst = some d → d ∈ ds) (v : Value) : Keep ds a0 (a.put o.dst v) := by
  cases ho : o.dst with
  | none => simpa [Act.put] using h
  | some d =>
    have hlt : d < a.tmps.size := by
      rw [hR.size]
      simpa [fitsB, ho, Nat.blt_eq] using hf
    intro t ht
    rw [getD_put a d v t hlt, if_neg (fun e : d = t => ht (e ▸ hd d ho))]
    exact h t ht

theorem Rel.evalx {n : Nat} {a : Act} {F : Fr} (h : Rel n a F) {x : Operand} (hk : (evO F x).isSome = true) : a.eval x = ev F x := by
  cases x with
  | tmp t =>
    simp only [evO] at hk
    obtain ⟨v, hv⟩ := Option.isSome_iff_exists.1 hk
    simp only [Act.eval, ev, evO, hv, Option.getD_some]
    exact h.slot t v hv
  | const v => rfl
  | global g => rfl
  | func f => rfl

theorem Rel.evalxs {n : Nat} {a : Act} {F : Fr} (h : Rel n a F) {op : Op} (hk : knownB F op = true) : ∃ l, opnds op = some l ∧ ∀ x ∈ l, a.eval x = ev F x := by
  unfold knownB at hk
  cases ho : opnds op with
  | none => rw [ho] at hk; cases hk
  | some l =>
    rw [ho] at hk
    exact ⟨l, rfl, fun x hx => h.evalx (List.all_eq_true.1 hk x hx)⟩

theorem mapA_eq {α β : Type} (f g : α → β) (xs : Array α) (h : ∀ x ∈ xs.toList, f x = g x) : xs.map f = mapA g xs := by
  apply Array.toList_inj.1
  simp only [mapA, Array.toList_map]
  exact List.map_congr_left h

section
variable {P : Program} {o : Oper} {a : Act} {K : Act → World → Prop} {Q : Exit → Act → World → Prop} {w : World} {Kv : Value → World → Prop}

theorem upon_lift {m : Sem Value} (h : LiftP P m Kv w) (hK : ∀ v w', Kv v w' → K (a.put o.dst v) w') : o.upon P a K Q ((do pure (Next.value (← m)) : Sem Next).run P w) := by
  obtain ⟨v, w', hr, hk⟩ := h.out
  simp only [Sem.run_bind, hr, Result.andThen_ok, Sem.run_pure, Oper.upon]
  exact hK _ _ hk
theorem upon_liftU {m : Sem Unit} (h : LiftU P m Kv w) (hK : ∀ v w', Kv v w' → K (a.put o.dst v) w') : o.upon P a K Q ((do m; pure Next.skip : Sem Next).run P w) := by
  obtain ⟨w', hr, hk⟩ := h.out
  simp only [Sem.run_bind, hr, Result.andThen_ok, Sem.run_pure, Oper.upon]
  exact hK _ _ hk
theorem upon_next {m : Sem Next} (h : NextP P m Kv w) (hK : ∀ v w', Kv v w' → K (a.put o.dst v) w') : o.upon P a K Q (m.run P w) := by
  replace h := h.out
  unfold NextB at h
  split at h
  · rename_i v w' hr; rw [hr]; exact hK _ _ h
  · rename_i w' hr; rw [hr]; exact hK _ _ h
  · rename_i f args w' hr
    rw [hr]
    simp only [Oper.upon]
    exact Calls.mono h.out fun e w'' ⟨v, he, hv⟩ => by subst he; exact hK _ _ hv
  · exact h.elim
theorem upon_call {f : FuncId} {args : Array Value} (hc : callable P f = true) (h : CallP P f args Kv w) (hK : ∀ v w', Kv v w' → K (a.put o.dst v) w') : o.upon P a K Q ((callFunc f args).run P w) := by
  unfold callable at hc
  split at hc
  · rename_i fn hfn
    simp only [Bool.and_eq_true, Bool.not_eq_true'] at hc
    have hr : (callFunc f args).run P w = .ok (.enter f args) w := by
      have hb : fn.body.isNone = false := by
        cases hh : fn.body with
        | none => rw [hh] at hc; simp at hc
        | some c => rfl
      unfold callFunc
      simp only [Sem.run_bind, run_program, Result.andThen_ok, hfn]
      rw [if_neg (by rw [hc.2]; exact Bool.false_ne_true), if_neg (by rw [hb]; exact Bool.false_ne_true)]
      rfl
    rw [hr]
    simp only [Oper.upon]
    exact Calls.mono h.out fun e w'' ⟨v, he, hv⟩ => by subst he; exact hK _ _ hv
  · cases hc

end


section
variable {P : Program} {n : Nat} {a : Act} {F : Fr} {K : Act → World → Prop} {Q : Exit → Act → World → Prop} {w : World} {Kv : Value → World → Prop}

theorem semOf_exec {op : Op} {dst : Option Tmp} {ty : TypeId} {pos : String} {after : Array Edge} {g : Option (Nat × Bool)} (hR : Rel n a F) (hk : knownB F op = true) {m : Sem Value} (h : semOf op ty (ev F) = some m) :
    execOp a.eval { dst, op, type := ty, pos, after, guard := g } = (do pure (Next.value (← m))) := by
  obtain ⟨l, hl, he⟩ := hR.evalxs hk
  cases op <;> simp only [semOf, Option.some.injEq, reduceCtorEq] at h <;> simp only [opnds, Option.some.injEq] at hl <;> subst h <;> subst hl
  case alloc => rfl
  case build t ps =>
    show (do pure (Next.value (← Instr.build t (ps.map fun (p : Nat × Operand) => (p.1, a.eval p.2))))) = _
    rw [mapA_eq (fun p => (p.1, a.eval p.2)) (fun p => (p.1, ev F p.2)) ps (fun p hp => by
      simp only [Prod.mk.injEq, true_and]
      exact he p.2 (List.mem_map.2 ⟨p, hp, rfl⟩))]
  case buildSlice t k ps =>
    show (do pure (Next.value (← Instr.buildSlice t k (ps.map fun (p : Nat × Operand) => (p.1, a.eval p.2))))) = _
    rw [mapA_eq (fun p => (p.1, a.eval p.2)) (fun p => (p.1, ev F p.2)) ps (fun p hp => by
      simp only [Prod.mk.injEq, true_and]
      exact he p.2 (List.mem_map.2 ⟨p, hp, rfl⟩))]
  case makeFunc fn f c =>
    show (do pure (Next.value (← Instr.makeFunc fn (f.map a.eval) (c.map a.eval)))) = _
    rw [mapA_eq a.eval (ev F) f (fun x hx => he x (List.mem_append_left _ hx)), mapA_eq a.eval (ev F) c (fun x hx => he x (List.mem_append_right _ hx))]
  case makeMap t r =>
    show (do pure (Next.value (← Instr.makeMap t (r.map a.eval)))) = _
    have : r.map a.eval = r.map (ev F) := by cases r with
      | none => rfl
      | some x => simp [he x (by simp)]
    rw [this]
  case slice t x lo hi mx =>
    show (do pure (Next.value (← Instr.sliceAt t (a.eval x) (lo.map a.eval) (hi.map a.eval) (mx.map a.eval)))) = _
    have h1 : lo.map a.eval = lo.map (ev F) := by cases lo with
      | none => rfl
      | some y => simp [he y (by simp)]
    have h2 : hi.map a.eval = hi.map (ev F) := by cases hi with
      | none => rfl
      | some y => simp [he y (by simp)]
    have h3 : mx.map a.eval = mx.map (ev F) := by cases mx with
      | none => rfl
      | some y => simp [he y (by simp)]
    rw [h1, h2, h3, he x (by simp)]
  all_goals (simp only [execOp]; simp only [List.mem_cons, List.not_mem_nil, or_false, forall_eq_or_imp, forall_eq] at he; (try simp only [he]); (try rfl))

theorem semU_exec {op : Op} {dst : Option Tmp} {ty : TypeId} {pos : String} {after : Array Edge} {g : Option (Nat × Bool)} (hR : Rel n a F) (hk : knownB F op = true) {m : Sem Unit} (h : semU op (ev F) = some m) :
    execOp a.eval { dst, op, type := ty, pos, after, guard := g } = (do m; pure Next.skip) := by
  obtain ⟨l, hl, he⟩ := hR.evalxs hk
  cases op <;> simp only [semU, Option.some.injEq, reduceCtorEq] at h <;> simp only [opnds, Option.some.injEq] at hl <;> subst h <;> subst hl
  all_goals (simp only [execOp]; simp only [List.mem_cons, List.not_mem_nil, or_false, forall_eq_or_imp, forall_eq] at he; (try simp only [he]); (try rfl))

theorem nilChk_exec {x : Operand} {dst : Option Tmp} {ty : TypeId} {pos : String} {after : Array Edge} {g : Option (Nat × Bool)} (hR : Rel n a F) (hk : knownB F (.nilCheck x) = true) :
    execOp a.eval { dst, op := .nilCheck x, type := ty, pos, after, guard := g } = nilChk (ev F x) := by
  obtain ⟨l, hl, he⟩ := hR.evalxs hk
  simp only [opnds, Option.some.injEq] at hl
  subst hl
  show nilChk (a.eval x) = _
  rw [he x (by simp)]

theorem builtin_exec {b : Builtin} {args : Array Operand} {ats : Array TypeId} {dst : Option Tmp} {ty : TypeId} {pos : String} {after : Array Edge} {g : Option (Nat × Bool)} (hR : Rel n a F)
    (hk : knownB F (.call { callee := .builtin b, args, argTypes := ats }) = true) :
    execOp a.eval { dst, op := .call { callee := .builtin b, args, argTypes := ats }, type := ty, pos, after, guard := g } = builtin b ats ty (mapA constB args) (mapA (ev F) args) := by
  obtain ⟨l, hl, he⟩ := hR.evalxs hk
  simp only [opnds, Option.some.injEq] at hl
  subst hl
  show builtin b ats ty (args.map fun | .const _ => true | _ => false) (args.map a.eval) = _
  rw [mapA_eq a.eval (ev F) args (fun x hx => he x (by simp at hx ⊢; exact hx)), mapA_eq _ constB args (fun x _ => by cases x <;> rfl)]

theorem semN_exec {op : Op} {dst : Option Tmp} {ty : TypeId} {pos : String} {after : Array Edge} {g : Option (Nat × Bool)} (hR : Rel n a F) (hk : knownB F op = true) {m : Sem Next} (h : semN op ty (ev F) = some m) :
    execOp a.eval { dst, op, type := ty, pos, after, guard := g } = m := by
  cases op <;> simp only [semN, Option.some.injEq, reduceCtorEq] at h
  case nilCheck x => subst h; exact nilChk_exec hR hk
  case call c =>
    obtain ⟨callee, args, ats⟩ := c
    cases callee with
    | builtin b => simp only [Option.some.injEq] at h; subst h; exact builtin_exec hR hk
    | value f =>
      simp only [Option.some.injEq] at h; subst h
      obtain ⟨l, hl, he⟩ := hR.evalxs hk
      simp only [opnds, Option.some.injEq] at hl
      subst hl
      show (do let d ← Deferred.ofValue (a.eval f) (args.map a.eval); invoke d.target d.args) = callV (ev F f) (mapA (ev F) args)
      rw [he f (by simp), mapA_eq a.eval (ev F) args (fun x hx => he x (by simp at hx ⊢; exact .inr hx))]
      rfl
    | invoke r name =>
      simp only [Option.some.injEq] at h; subst h
      obtain ⟨l, hl, he⟩ := hR.evalxs hk
      simp only [opnds, Option.some.injEq] at hl
      subst hl
      show (invoke (.fn (.method name) #[]) (#[a.eval r] ++ args.map a.eval)) = _
      rw [he r (by simp), mapA_eq a.eval (ev F) args (fun x hx => he x (by simp at hx ⊢; exact .inr hx))]

theorem exec_call {f : FuncId} {args : Array Operand} {ats : Array TypeId} {dst : Option Tmp} {ty : TypeId} {pos : String} {after : Array Edge} {g : Option (Nat × Bool)} (hR : Rel n a F)
    (hk : knownB F (.call { callee := .value (.func f), args, argTypes := ats }) = true) :
    execOp a.eval { dst, op := .call { callee := .value (.func f), args, argTypes := ats }, type := ty, pos, after, guard := g } = callFunc f (mapA (ev F) args) := by
  obtain ⟨l, hl, he⟩ := hR.evalxs hk
  simp only [opnds, Option.some.injEq] at hl
  subst hl
  show callFunc f (#[] ++ args.map a.eval ++ #[]) = _
  rw [mapA_eq a.eval (ev F) args (fun x hx => he x (by simp at hx ⊢; exact .inr hx))]
  simp

theorem trAct_sound {o : Oper} (hk : knownB F o.op = true) (hR : Rel n a F) (hop : opB P n o = true) (h : trAct P o.op o.type F Kv w) (hK : ∀ v w', Kv v w' → K (a.put o.dst v) w') : o.wp P a w K Q := by
  unfold Oper.wp
  have gen : ∀ op, o.op = op → (match semOf op o.type (ev F) with
      | some m => LiftP P m Kv w
      | none => match semU op (ev F) with
        | some m => LiftU P m Kv w
        | none => match semN op o.type (ev F) with
          | some m => NextP P m Kv w
          | none => False) → o.upon P a K Q ((execOp a.eval o).run P w) := by
    intro op ho h
    obtain ⟨dst, op', type, pos, after, guard⟩ := o
    simp only at ho
    subst ho
    split at h
    · rename_i m hm
      rw [semOf_exec hR hk hm]
      exact upon_lift h hK
    · split at h
      · rename_i m hm
        rw [semU_exec hR hk hm]
        exact upon_liftU h hK
      · split at h
        · rename_i m hm
          rw [semN_exec hR hk hm]
          exact upon_next h hK
        · exact h.elim
  unfold trAct at h
  split at h
  · rename_i x hx
    obtain ⟨dst, op', type, pos, after, guard⟩ := o
    simp only at hx; subst hx
    obtain ⟨l, hl, he⟩ := hR.evalxs hk
    simp only [opnds, Option.some.injEq] at hl; subst hl
    show Oper.upon P _ a K Q ((pure (Next.value (a.eval x)) : Sem Next).run P w)
    rw [he x (by simp)]
    unfold ev
    split at h
    · rename_i v hv
      rw [hv]
      exact hK _ _ h
    · exact h.elim
  · rename_i x hx
    obtain ⟨dst, op', type, pos, after, guard⟩ := o
    simp only at hx; subst hx
    obtain ⟨l, hl, he⟩ := hR.evalxs hk
    simp only [opnds, Option.some.injEq] at hl; subst hl
    show Oper.upon P _ a K Q ((pure (Next.value (a.eval x)) : Sem Next).run P w)
    rw [he x (by simp)]
    unfold ev
    split at h
    · rename_i v hv
      rw [hv]
      exact hK _ _ h
    · exact h.elim
  · rename_i c x y hx
    obtain ⟨dst, op', type, pos, after, guard⟩ := o
    simp only at hx; subst hx
    obtain ⟨l, hl, he⟩ := hR.evalxs hk
    simp only [opnds, Option.some.injEq] at hl; subst hl
    obtain ⟨b, hb, h⟩ := h.out
    show Oper.upon P _ a K Q ((do pure (Next.value (if ← asBool (a.eval c) then a.eval x else a.eval y)) : Sem Next).run P w)
    rw [he c (by simp), he x (by simp), he y (by simp), hb]
    have := hK _ _ h
    cases b <;> simpa [asBool, Sem.run_bind, Oper.upon] using this
  · rename_i f args ats hx
    obtain ⟨dst, op', type, pos, after, guard⟩ := o
    simp only at hx; subst hx
    rw [exec_call hR hk]
    exact upon_call (by simpa [opB] using (Bool.and_eq_true _ _ ▸ hop).2) h hK
  · exact gen _ rfl h
end

end Go.Proofs.YtmnaggdhkggjhaaGreatDoor.E
