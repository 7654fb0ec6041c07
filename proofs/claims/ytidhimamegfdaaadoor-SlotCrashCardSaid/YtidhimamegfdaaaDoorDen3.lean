/- A predicate-transformer denotation of the model's code: regions that draw their order, and code. -/
import Derived.Test.YtidhimamegfdaaaDoorDen2
namespace Go.Den
set_option linter.unusedSimpArgs false
set_option linter.unusedVariables false

/-- 0: an operation that looks at no memory; 1: a load; 2: any other. -/
def cls (P : Program) (op : Op) : Nat :=
  match op with
  | .move _ | .assign _ | .pick _ _ _ | .nilCheck _ | .binOp .. | .unOp .. | .makeFunc .. | .slice .. | .fieldAddr .. | .field .. | .indexAddr .. | .index .. | .extract .. | .build .. => 0
  | .convert _ d _ => match P.underlying d with | some (.int _) => 0 | _ => 2
  | .load _ _ => 1
  | .call c => match c.callee with
    | .builtin .len => 0 | .builtin .min => 0 | .builtin .max => 0
    | _ => 2
  | _ => 2

abbrev Held := List (Nat × Addr × List Value)

/-- What was read, and could have been read now, reads as it did. -/
def keep : Held → WK → WK
  | [], K => K
  | (_, a, cs) :: r, K => fun w => Holds w a cs ∧ keep r K w

def waits (o : Oper) (i : Nat) : Bool := o.after.any fun ed => Region.binds .any ed && Nat.beq ed.on i

def kp (a : Addr) (cs : List Value) (K : WK) : WK := fun w => Holds w a cs ∧ K w
def both (X Y : WK) : WK := fun w => X w ∧ Y w

def stays (o : Oper) (S : Held) : Held := S.filter fun p => !waits o p.1

def allR : List Nat → (Nat → WK) → WK
  | [], _ => fun _ => True
  | [i], f => f i
  | i :: r, f => fun w => f i w ∧ allR r f w

def quietAt (P : Program) (ops : Array Oper) (i : Nat) : Bool := match ops[i]? with | some o => Nat.blt (cls P o.op) 2 | none => false

/-- An operation's denotation, with what it reads. -/
def qDen (F : Fn) (e : Env) (i : Nat) (o : Oper) (S : Held) (K : Held → VK) : WK :=
  match o.op with
  | .load t x => match ev e x with
    | some (.pointer (some a)) => loadDen F.P t a fun cs v => K ((i, a, cs) :: S) v
    | _ => no
  | op => opDen F.P F.T F.E e op o.type (K S)

/-- A guard: none, or decided, or the way parts. -/
def guarded (ops : Array Oper) (o : Oper) (e : Env) (run skip : Env → WK) : WK :=
  match o.guard with
  | none => run e
  | some (j, want) => match gdst ops j with
    | none => no
    | some d => match lk e d with
      | some (.bool b) => br b (bif beqB true want then run ((d, .bool true) :: e) else skip ((d, .bool true) :: e))
          (bif beqB false want then run ((d, .bool false) :: e) else skip ((d, .bool false) :: e))
      | some (.tuple _) => skip e
      | _ => no

def denDraw (F : Fn) (ops : Array Oper) (K : Env → WK) : Nat → Array Bool → Held → Env → WK
  | 0, listed, _, e => match Region.ready .any ops listed with | [] => K e | _ => no
  | f + 1, listed, S, e => match Region.ready .any ops listed with
    | [] => K e
    | r :: rs => match (r :: rs).find? (quietAt F.P ops) with
      | some i => match ops[i]? with
        | some o => bif Region.free .any ops listed i then
            guarded ops o e (fun e => qDen F e i o S fun S v => pt F.n F.C e o.dst v (denDraw F ops K f (listed.setIfInBounds i true) S))
              (fun e => pt F.n F.C e o.dst undef (denDraw F ops K f (listed.setIfInBounds i true) S))
          else no
        | none => no
      | none => allR (r :: rs) fun i => match ops[i]? with
        | some o => guarded ops o e (fun e => opDen F.P F.T F.E e o.op o.type fun v => keep (stays o S) (pt F.n F.C e o.dst v (denDraw F ops K f (listed.setIfInBounds i true) (stays o S))))
              (fun e => pt F.n F.C e o.dst undef (denDraw F ops K f (listed.setIfInBounds i true) S))
        | none => no

/-- A loop is known by the first region in it. -/
def key : Code → Nat
  | .region i _ _ => i
  | .seq a _ => key a
  | .block _ c => key c
  | .cond _ a _ => key a
  | .loop c => key c
  | .scope c => key c
  | _ => 0

def annOf : List (Nat × List (Nat × Value)) → Nat → Option (List (Nat × Value))
  | [], _ => none
  | (k, l) :: r, i => bif Nat.beq k i then some l else annOf r i

/-- The slots' values, if they are of the told forms. -/
def slots (e : Env) : List (Nat × Value) → Option (List Value)
  | [] => some []
  | (t, z) :: r => match lk e t with
    | some v => bif fits z v then (match slots e r with | some vs => some (v :: vs) | none => none) else none
    | none => none

def zipE : List (Nat × Value) → List Value → Env → Env
  | (t, _) :: l, v :: vs, C => (t, v) :: zipE l vs C
  | _, _, C => C

def seqQ (K : Env → WK) (Q : Exit → Env → WK) : Exit → Env → WK
  | .normal, e => K e
  | .exit i, e => Q (.exit i) e
  | .goto l, e => Q (.goto l) e
  | .ret, e => Q .ret e
  | .panic c, e => Q (.panic c) e
  | .outgrown, e => Q .outgrown e

def blockQ (i : Nat) (Q : Exit → Env → WK) : Exit → Env → WK
  | .exit j, e => bif Nat.beq j i then Q .normal e else Q (.exit j) e
  | .normal, e => Q .normal e
  | .goto l, e => Q (.goto l) e
  | .ret, e => Q .ret e
  | .panic c, e => Q (.panic c) e
  | .outgrown, e => Q .outgrown e

def loopQ (l : List (Nat × Value)) (I : List Value → World → Prop) (μ : List Value → World → Nat) (m : Nat) (e : Env) : WK :=
  match slots e l with
  | some vs => fun w => I vs w ∧ μ vs w < m
  | none => no

def den (F : Fn) : Code → (Exit → Env → WK) → Env → WK
  | .skip, Q, e => Q .normal e
  | .ret, Q, e => Q .ret e
  | .exit i, Q, e => Q (.exit i) e
  | .seq x y, Q, e => den F x (seqQ (den F y Q) Q) e
  | .cond c x y, Q, e => match ev e c with
    | some (.bool b) => br b (den F x Q e) (den F y Q e)
    | _ => no
  | .block i c, Q, e => den F c (blockQ i Q) e
  | .loop c, Q, e => match annOf F.ann (key c) with
    | some l => match slots e l with
      | some vs => fun w => ∃ (I : List Value → World → Prop) (μ : List Value → World → Nat), I vs w ∧
          allTs (l.map (·.2)) fun us => ∀ w, I us w → den F c (seqQ (loopQ l I μ (μ us w)) Q) (zipE l us F.C) w
      | none => no
    | none => no
  | .region _ ops draw, Q, e => bif draw then
      (bif Region.noSelect ops then tick (denDraw F ops (Q .normal) ops.size (Array.replicate ops.size false) [] e) else no)
    else seqOps F ops ops.toList (Q .normal) e
  | _, _, _ => no

end Go.Den
