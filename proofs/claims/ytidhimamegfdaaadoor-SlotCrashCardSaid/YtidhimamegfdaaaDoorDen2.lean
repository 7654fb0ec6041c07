/- A predicate-transformer denotation of the model's code: operations and code. -/
import Derived.Test.YtidhimamegfdaaaDoorDen1
namespace Go.Den
set_option linter.unusedSimpArgs false
set_option linter.unusedVariables false

def isum (k : IntKind) (op : BinOp) (x y : Int) : Int :=
  match op with
  | .and => k.wrap ((BitVec.ofInt k.bits x &&& BitVec.ofInt k.bits y).toNat)
  | .or => k.wrap ((BitVec.ofInt k.bits x ||| BitVec.ofInt k.bits y).toNat)
  | .xor => k.wrap ((BitVec.ofInt k.bits x ^^^ BitVec.ofInt k.bits y).toNat)
  | _ => k.wrap ((BitVec.ofInt k.bits x &&& ~~~ BitVec.ofInt k.bits y).toNat)

def shl (k : IntKind) (x y : Int) : Int := k.wrap (x * 2 ^ (min y.toNat k.bits))
def shr (k : IntKind) (x y : Int) : Int := x.fdiv (2 ^ (min y.toNat k.bits))

def intDen (op : BinOp) (k : IntKind) (x y : Int) (K : VK) : WK :=
  match op with
  | .add => K (.int k (k.wrap (x + y)))
  | .sub => K (.int k (k.wrap (x - y)))
  | .mul => K (.int k (k.wrap (x * y)))
  | .quo => chk (y ≠ 0) (K (.int k (k.wrap (x.tdiv y))))
  | .rem => chk (y ≠ 0) (K (.int k (x.tmod y)))
  | .and => K (.int k (isum k .and x y))
  | .or => K (.int k (isum k .or x y))
  | .xor => K (.int k (isum k .xor x y))
  | .andNot => K (.int k (isum k .andNot x y))
  | .eql => K (.bool (x == y))
  | .neq => K (.bool (x != y))
  | .lss => K (.bool (decide (x < y)))
  | .leq => K (.bool (decide (x ≤ y)))
  | .gtr => K (.bool (decide (x > y)))
  | .geq => K (.bool (decide (x ≥ y)))
  | .shl => chk (0 ≤ y) (K (.int k (shl k x y)))
  | .shr => chk (0 ≤ y) (K (.int k (shr k x y)))

def strEq (x y : ByteArray) : Bool := x.toList == y.toList

def strDen (op : BinOp) (x y : ByteArray) (K : VK) : WK :=
  match op with
  | .add => chk (((x.size + y.size : Nat) : Int) ≤ 9223372036854775807) (K (.string (x ++ y)))
  | .eql => K (.bool (strEq x y))
  | .neq => K (.bool (!strEq x y))
  | _ => no

/-- The zero cells of the struct types that are compared. -/
abbrev Eqs := List (Nat × List Value)

def eqsOf : Eqs → Nat → Option (List Value)
  | [], _ => none
  | (t, z) :: r, u => bif Nat.beq t u then some z else eqsOf r u

def fitsL : List Value → List Value → Bool
  | [], [] => true
  | z :: zs, v :: vs => fits z v && fitsL zs vs
  | _, _ => false

def eqCell (x y : Value) : Bool := match x, y with
  | .int _ a, .int _ b => a == b
  | .bool a, .bool b => a == b
  | .string a, .string b => strEq a b
  | _, _ => false

def eqCells : List Value → List Value → Bool
  | [], [] => true
  | x :: xs, y :: ys => eqCell x y && eqCells xs ys
  | _, _ => false

/-- '==' of structs of plain cells. -/
def eqC (zs xs ys : List Value) (K : Bool → WK) : WK := fun w => (fitsL zs xs = true ∧ fitsL zs ys = true) ∧ K (eqCells xs ys) w

def binDen (P : Program) (E : Eqs) (op : BinOp) (t : TypeId) (x y : Value) (K : VK) : WK :=
  match x, y with
  | .int k a, .int k' b => match op with
    | .shl => intDen .shl k a b K
    | .shr => intDen .shr k a b K
    | op => bif decide (k = k') then intDen op k a b K else no
  | .string a, .string b => strDen op a b K
  | .bool a, .bool b => match P.underlying t, op with
    | some .bool, .eql => K (.bool (a == b))
    | some .bool, .neq => K (.bool (!(a == b)))
    | _, _ => no
  | .pointer p, .pointer none => match P.underlying t, op with
    | some (.pointer _), .eql => K (.bool p.isNone)
    | some (.pointer _), .neq => K (.bool (!p.isNone))
    | _, _ => no
  | .slice p _ _, .slice none _ _ => match P.underlying t, op with
    | some (.slice _), .eql => K (.bool p.isNone)
    | some (.slice _), .neq => K (.bool (!p.isNone))
    | _, _ => no
  | .agg xs, .agg ys => match eqsOf E t, op with
    | some zs, .eql => eqC zs xs.toList ys.toList fun b => K (.bool b)
    | some zs, .neq => eqC zs xs.toList ys.toList fun b => K (.bool (!b))
    | _, _ => no
  | _, _ => no

def unDen (op : UnOp) (x : Value) (K : VK) : WK :=
  match op, x with
  | .not, .bool b => K (.bool (!b))
  | .neg, .int k n => K (.int k (k.wrap (0 - n)))
  | .xor, .int k n => K (.int k (isum k .xor (if k.signed then -1 else k.max) n))
  | _, _ => no

def convDen (P : Program) (s d : TypeId) (x : Value) (K : VK) : WK :=
  match P.underlying s with
  | none => no
  | some sd => match P.underlying d, x with
    | some (.int k), .int _ n => K (.int k (k.wrap n))
    | some .string, .string _ => K x
    | some (.slice e), .string b => match P.underlying e with
      | some (.int .u8) => s2b b fun r c => K (.slice (some ⟨r, 0, none⟩) b.size c)
      | _ => no
    | some .string, .slice p n _ => match sd with
      | .slice e => match P.underlying e with
        | some (.int .u8) => b2s p n fun b => K (.string b)
        | _ => no
      | _ => no
    | _, _ => no

/-- The zero value of a type, where the tables tell one that fits the type's kind. -/
def zeroOf (P : Program) (t : TypeId) : Option Value :=
  match P.info? t with
  | some i => i.zero
  | none => none

def cellsL (v : Value) : List Value := match v with | .agg cs => cs.toList | v => [v]

def isAggD (d : TypeDesc) : Bool := match d with | .struct _ | .array _ _ => true | _ => false

def ptrAt (r : Nat) : Value := .pointer (some ⟨r, 0, none⟩)

/-- A struct of two fields, of which the first points to such a struct, and the second is a slice (a builder of the library's). -/
def selfFirst (P : Program) (t : TypeId) : Bool :=
  match P.underlying t with
  | some (.struct fs) => match fs.toList with
    | [f, g] => match P.underlying f.type, P.underlying g.type with
      | some (.pointer e), some (.slice _) => Nat.beq e t
      | _, _ => false
    | _ => false
  | _ => false

def loadDen (P : Program) (t : TypeId) (a : Addr) (K : List Value → VK) : WK :=
  match P.underlying t, P.info? t with
  | some d, some i => bif isAggD d then ldN a i.size fun cs => K cs (.agg ⟨cs⟩) else
      match i.zero with
      | some z => ld a (xT1 z fun v => K [v] v)
      | none => no
  | _, _ => no

def storeDen (P : Program) (t : TypeId) (a : Addr) (v : Value) (K : VK) : WK :=
  match P.info? t with
  | some i => match v with
    | .agg cs => chk (cs.toList.length = i.size) (stN a cs.toList (K undef))
    | v => bif Nat.beq i.size 1 then st a v (K undef) else no
  | none => no

/-- A struct's (or an array's) cells out of its parts, field by field in order; what isn't given is zero. 'fs': each field's place and size; 'ps': the parts, rising. -/
def catF (zero : List Value) : List (Nat × Nat) → Nat → Nat → List (Nat × List Value) → Option (List Value × Prop)
  | [], at_, _, ps => bif Nat.beq at_ zero.length then (match ps with | [] => some ([], True) | _ => none) else none
  | (off, n) :: fs, at_, i, ps => bif Nat.beq off at_ then
      (match ps with
      | [] => match catF zero fs (at_ + n) (i + 1) [] with
        | some (r, p) => some ((zero.drop off).take n ++ r, p)
        | none => none
      | (j, cs) :: ps' => bif Nat.beq i j then
          match catF zero fs (at_ + n) (i + 1) ps' with
          | some (r, p) => some (cs ++ r, cs.length = n ∧ p)
          | none => none
        else match catF zero fs (at_ + n) (i + 1) ps with
          | some (r, p) => some ((zero.drop off).take n ++ r, p)
          | none => none)
    else none

def placesL (P : Program) : List Field → Option (List (Nat × Nat))
  | [] => some []
  | f :: fs => match P.info? f.type, placesL P fs with
    | some i, some r => some ((f.offset, i.size) :: r)
    | _, _ => none

def buildDen (P : Program) (t : TypeId) (parts : List (Nat × Value)) (K : VK) : WK :=
  match zeroOf P t, P.underlying t with
  | some (.agg z), some (.struct fs) => match placesL P fs.toList with
    | some pl => match catF z.toList pl 0 0 (parts.map fun p => (p.1, cellsL p.2)) with
      | some (cs, p) => chk p (K (.agg ⟨cs⟩))
      | none => no
    | none => no
  | some (.agg z), some (.array n e) => match P.info? e with
    | some i => match catF z.toList ((List.range n).map fun j => (j * i.size, i.size)) 0 0 (parts.map fun p => (p.1, cellsL p.2)) with
      | some (cs, p) => chk p (K (.agg ⟨cs⟩))
      | none => no
    | none => no
  | _, _ => no

def buildSlDen (P : Program) (t : TypeId) (len : Nat) (parts : List (Nat × Value)) (K : VK) : WK :=
  match P.underlying t with
  | some (.slice e) => match P.info? e with
    | some i => match i.zero with
      | some z => bif Nat.ble (len * i.size) 16777216 && Nat.blt 0 i.size && Nat.beq (cellsL z).length i.size then
          match catF (Builtin.zeroCells ⟨cellsL z⟩ len).toList ((List.range len).map fun j => (j * i.size, i.size)) 0 0 (parts.map fun p => (p.1, cellsL p.2)) with
          | some (cs, p) => chk p (mk cs fun r => K (.slice (some ⟨r, 0, none⟩) len len))
          | none => no
        else no
      | none => no
    | none => no
  | _ => no

def evPs (e : Env) : List (Nat × Operand) → Option (List (Nat × Value))
  | [] => some []
  | (i, x) :: r => match ev e x, evPs e r with
    | some v, some vs => some ((i, v) :: vs)
    | _, _ => none

/-- An optional bound. -/
def evI (e : Env) : Option Operand → Option (Option Int)
  | none => some none
  | some x => match ev e x with
    | some (.int _ n) => some (some n)
    | _ => none

def sliceDen (P : Program) (t : TypeId) (x : Value) (lo hi : Option Int) (K : VK) : WK :=
  match P.underlying t, x with
  | some .string, .string s => slStr s lo hi fun r => K (.string r)
  | some (.slice e), .slice b n c => match P.info? e with
    | some i => slSl b n c i.size lo hi fun b n c => K (.slice b n c)
    | none => no
  | some (.array n e), .pointer (some a) => match P.info? e with
    | some i => slSl (some a) n n i.size lo hi fun b n c => K (.slice b n c)
    | none => no
  | _, _ => no

def indexAddrDen (P : Program) (t : TypeId) (x i : Value) (K : VK) : WK :=
  match P.underlying t, x, i with
  | some (.slice e), .slice b n _, .int _ j => match P.info? e with
    | some i => ixs b n j i.size fun a => K (.pointer (some a))
    | none => no
  | some (.array n e), .pointer (some a), .int _ j => match P.info? e with
    | some i => chk (0 ≤ j ∧ j < n) (K (.pointer (some (a.add (j.toNat * i.size)))))
    | none => no
  | _, _, _ => no

def indexDen (P : Program) (t : TypeId) (x i : Value) (K : VK) : WK :=
  match P.underlying t, x, i with
  | some .string, .string s, .int _ j => ixStr s j fun c => K (.int .u8 c.toNat)
  | some (.array n e), .agg cs, .int _ j => match P.underlying e, P.info? e with
    | some d, some i => bif isAggD d then chk (0 ≤ j ∧ j < n) (K (.agg ⟨(cs.toList.drop (j.toNat * i.size)).take i.size⟩))
      else bif Nat.beq i.size 1 then match i.zero with
        | some z => ixArr cs.toList n j (xT1 z K)
        | none => no
      else no
    | _, _ => no
  | _, _, _ => no

def fieldDen (P : Program) (t : TypeId) (x : Value) (f : Nat) (K : VK) : WK :=
  match P.underlying t, x with
  | some (.struct fs), .agg cs => match fs[f]? with
    | some fl => match P.underlying fl.type, P.info? fl.type with
      | some d, some i => bif isAggD d then K (.agg ⟨(cs.toList.drop fl.offset).take i.size⟩)
        else match i.zero with
          | some z => fun w => ∃ v, cs.toList[fl.offset]? = some v ∧ xT1 z K v w
          | none => no
      | _, _ => no
    | none => no
  | _, _ => no

def fieldAddrDen (P : Program) (t : TypeId) (x : Value) (f : Nat) (K : VK) : WK :=
  match P.underlying t, x with
  | some (.struct fs), .pointer (some a) => match fs[f]? with
    | some fl => match P.info? fl.type with
      | some i => bif Nat.beq i.size 0 then no else K (.pointer (some (a.add fl.offset)))
      | none => no
    | none => no
  | _, _ => no

def lenDen (P : Program) (t : TypeId) (x : Value) (K : VK) : WK :=
  match P.underlying t, x with
  | some .string, .string s => K (.int .i64 s.size)
  | some (.slice _), .slice _ n _ => K (.int .i64 n)
  | some (.array n _), _ => K (.int .i64 n)
  | _, _ => no

def min2 (x y : Int) : Int := if y < x then y else x
def max2 (x y : Int) : Int := if y > x then y else x

def minsD : Int → List Value → Option Int
  | x, [] => some x
  | x, .int _ y :: r => minsD (min2 x y) r
  | _, _ => none
def maxsD : Int → List Value → Option Int
  | x, [] => some x
  | x, .int _ y :: r => maxsD (max2 x y) r
  | _, _ => none

def appDen (P : Program) (t u : TypeId) (s x : Value) (K : VK) : WK :=
  match P.underlying t, s with
  | some (.slice e), .slice b n c => match P.info? e with
    | some i => match i.zero with
      | some z => match P.underlying u, x with
        | some (.slice _), .slice b' m _ => appSl i.size i.bytes (cellsL z) b n c b' m fun b n c => K (.slice b n c)
        | some .string, .string y => bif Nat.beq i.size 1 && Nat.beq i.bytes 1 then match z with
            | .int .u8 0 => appStr b n c y fun b n c => K (.slice b n c)
            | _ => no
          else no
        | _, _ => no
      | none => no
    | none => no
  | _, _ => no

def builtinDen (P : Program) (b : Builtin) (ts : List TypeId) (args : List Value) (K : VK) : WK :=
  match b, ts, args with
  | .len, t :: _, [x] => lenDen P t x K
  | .min, _, .int k x :: r => match minsD x r with | some m => K (.int k m) | none => no
  | .max, _, .int k x :: r => match maxsD x r with | some m => K (.int k m) | none => no
  | .append, [t, u], [s, x] => appDen P t u s x K
  | _, _, _ => no

def callDen (P : Program) (T : Tab) (e : Env) (c : Call) (ty : TypeId) (K : VK) : WK :=
  match evs e c.args.toList with
  | none => no
  | some args => match c.callee with
    | .builtin b => builtinDen P b c.argTypes.toList args K
    | .value f => match ev e f with
      | some (.func (.func g) first cap) => match zeroOf P ty with
        | some z => callT T g (first.toList ++ args ++ cap.toList) (xT z K)
        | none => no
      | _ => no
    | .invoke _ _ => no

def opDen (P : Program) (T : Tab) (E : Eqs) (e : Env) (op : Op) (ty : TypeId) (K : VK) : WK :=
  match op with
  | .move x | .assign x => match ev e x with | some v => K v | none => no
  | .pick c x y => match ev e c with
    | some (.bool b) => br b (match ev e x with | some v => K v | none => no) (match ev e y with | some v => K v | none => no)
    | _ => no
  | .alloc t => match zeroOf P t with
    | some z => bif selfFirst P t then mkT t (cellsL z) fun r => K (ptrAt r) else mk (cellsL z) fun r => K (ptrAt r)
    | none => no
  | .box _ x => match ev e x with
    | some v => mk (cellsL v) fun r => K (ptrAt r)
    | none => no
  | .build t ps => match evPs e ps.toList with
    | some l => buildDen P t l K
    | none => no
  | .buildSlice t n ps => match evPs e ps.toList with
    | some l => buildSlDen P t n l K
    | none => no
  | .load t x => match ev e x with
    | some (.pointer (some a)) => loadDen P t a fun _ => K
    | _ => no
  | .store t x y => match ev e x, ev e y with
    | some (.pointer (some a)), some v => storeDen P t a v K
    | _, _ => no
  | .nilCheck x => match ev e x with
    | some (.pointer p) => nn p fun a => K (.pointer (some a))
    | _ => no
  | .binOp op t x y _ => match ev e x, ev e y with
    | some a, some b => binDen P E op t a b K
    | _, _ => no
  | .unOp op _ x => match ev e x with
    | some a => unDen op a K
    | none => no
  | .convert s d x => match ev e x with
    | some a => convDen P s d a K
    | none => no
  | .makeFunc fn first cap => match evs e first.toList, evs e cap.toList with
    | some f, some c => K (.func fn ⟨f⟩ ⟨c⟩)
    | _, _ => no
  | .makeSlice t n c => match P.underlying t, ev e n, ev e c with
    | some (.slice el), some (.int _ n), some (.int _ c) => match P.info? el with
      | some i => match i.zero with
        | some z => bif Nat.blt 0 i.size && Nat.beq (cellsL z).length i.size then mkSl i.bytes (cellsL z) n c fun b n c => K (.slice b n c) else no
        | none => no
      | none => no
    | _, _, _ => no
  | .slice t x lo hi none => match ev e x, evI e lo, evI e hi with
    | some v, some l, some h => sliceDen P t v l h K
    | _, _, _ => no
  | .fieldAddr t x f => match ev e x with
    | some v => fieldAddrDen P t v f K
    | none => no
  | .field t x f => match ev e x with
    | some v => fieldDen P t v f K
    | none => no
  | .indexAddr t x i => match ev e x, ev e i with
    | some v, some j => indexAddrDen P t v j K
    | _, _ => no
  | .index t x i => match ev e x, ev e i with
    | some v, some j => indexDen P t v j K
    | _, _ => no
  | .extract x i => match ev e x with
    | some (.tuple vs) => match vs[i]? with
      | some v => K v
      | none => no
    | _ => no
  | .call c => callDen P T e c ty K
  | _ => no

def cover : Env → Nat → Bool
  | C, d => match lk C d with | none => true | some _ => false

/-- A temporary is written: it must lie in the frame, and be none of the constants 'C'. -/
def pt (n : Nat) (C : Env) (e : Env) (d : Option Tmp) (v : Value) (K : Env → WK) : WK :=
  match d with
  | none => K e
  | some d => bif Nat.blt d n && cover C d then K ((d, v) :: e) else no

structure Fn where
  P : Program
  T : Tab
  E : Eqs
  n : Nat
  C : Env
  ann : List (Nat × List (Nat × Value))

def gdst (ops : Array Oper) (j : Nat) : Option Tmp := match ops[j]? with | some o => o.dst | none => none

def beqB (a b : Bool) : Bool := match a, b with | true, true => true | false, false => true | _, _ => false

/-- One operation, under its guard: behind a guard that isn't decided the way parts. -/
def oneOp (F : Fn) (ops : Array Oper) (o : Oper) (K : Env → WK) (e : Env) : WK :=
  match o.guard with
  | none => opDen F.P F.T F.E e o.op o.type fun v => pt F.n F.C e o.dst v K
  | some (j, want) => match gdst ops j with
    | none => no
    | some d => match lk e d with
      | some (.bool b) =>
        br b (bif beqB true want then opDen F.P F.T F.E ((d, .bool true) :: e) o.op o.type fun v => pt F.n F.C ((d, .bool true) :: e) o.dst v K else pt F.n F.C ((d, .bool true) :: e) o.dst undef K)
          (bif beqB false want then opDen F.P F.T F.E ((d, .bool false) :: e) o.op o.type fun v => pt F.n F.C ((d, .bool false) :: e) o.dst v K else pt F.n F.C ((d, .bool false) :: e) o.dst undef K)
      | some (.tuple _) => pt F.n F.C e o.dst undef K
      | _ => no

def seqOps (F : Fn) (ops : Array Oper) : List Oper → (Env → WK) → Env → WK
  | [], K, e => K e
  | o :: r, K, e => oneOp F ops o (seqOps F ops r K) e

end Go.Den
