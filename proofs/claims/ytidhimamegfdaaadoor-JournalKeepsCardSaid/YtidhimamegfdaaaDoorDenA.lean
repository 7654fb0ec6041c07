/- DenA: Den1, Den2, Den3, Den4, Den5, Den6, merged: part of the proof: see the last text. -/
import Derived.OrdersHeld
import Derived.Calls
import Derived.KernelRfl
import Derived.Laws.Append
import Derived.Laws.CopyRow
import Derived.Tactics
import Derived.WalkKit
/- A predicate-transformer denotation of the model's code, over partial environments: definitions. -/
namespace Go.Den
set_option linter.unusedSimpArgs false
set_option linter.unusedVariables false

abbrev Env := List (Nat × Value)
abbrev WK := World → Prop
abbrev VK := Value → World → Prop
abbrev WP := List Value → VK → WK
abbrev Tab := List (Nat × WP)

def lk : Env → Nat → Option Value
  | [], _ => none
  | (s, v) :: e, t => bif Nat.beq s t then some v else lk e t

def no : WK := fun _ => False

def ev (e : Env) : Operand → Option Value
  | .tmp t => lk e t
  | .const v => some v
  | .global g => some (.pointer (some ⟨g, 0, none⟩))
  | .func f => some (.func (.func f) #[] #[])

def evs (e : Env) : List Operand → Option (List Value)
  | [] => some []
  | x :: xs => match ev e x with
    | some v => match evs e xs with
      | some vs => some (v :: vs)
      | none => none
    | none => none

/-! ### Primitives -/

def chk (p : Prop) (K : WK) : WK := fun w => p ∧ K w

def br (b : Bool) (X Y : WK) : WK := match b with | true => X | false => Y

def nn (p : Option Addr) (K : Addr → WK) : WK := match p with | some a => K a | none => no

def xI (k : IntKind) (K : Int → WK) : VK := fun v w => ∃ n, v = .int k n ∧ K n w
def xB (K : Bool → WK) : VK := fun v w => ∃ b, v = .bool b ∧ K b w
def xS (K : ByteArray → WK) : VK := fun v w => ∃ s, v = .string s ∧ K s w
def xP (K : Option Addr → WK) : VK := fun v w => ∃ p, v = .pointer p ∧ K p w
def xL (K : Option Addr → Nat → Nat → WK) : VK := fun v w => ∃ b n c, v = .slice b n c ∧ K b n c w
def xA (n : Nat) (K : List Value → WK) : VK := fun v w => ∃ cs, v = .agg ⟨cs⟩ ∧ cs.length = n ∧ K cs w

/-- The value is of the form that a zero value shows. -/
def xT1 (z : Value) (K : VK) : VK := match z with
  | .int k _ => xI k fun n => K (.int k n)
  | .bool _ => xB fun b => K (.bool b)
  | .string _ => xS fun s => K (.string s)
  | .pointer _ => xP fun p => K (.pointer p)
  | .slice _ _ _ => xL fun b n c => K (.slice b n c)
  | .agg zs => xA zs.size fun cs => K (.agg ⟨cs⟩)
  | _ => K

def x0 (K : WK) : VK := fun v w => v = .tuple ⟨[]⟩ ∧ K w
def x2 (K : Value → Value → WK) : VK := fun v w => ∃ a b, v = .tuple ⟨[a, b]⟩ ∧ K a b w
def x3 (K : Value → Value → Value → WK) : VK := fun v w => ∃ a b c, v = .tuple ⟨[a, b, c]⟩ ∧ K a b c w

def xT (z : Value) (K : VK) : VK := match z with
  | .tuple zs => match zs.toList with
    | [] => x0 (K (.tuple ⟨[]⟩))
    | [y, z] => x2 fun a b => xT1 y (fun a => xT1 z (fun b => K (.tuple ⟨[a, b]⟩)) b) a
    | [x, y, z] => x3 fun a b c => xT1 x (fun a => xT1 y (fun b => xT1 z (fun c => K (.tuple ⟨[a, b, c]⟩)) c) b) a
    | _ => fun _ => no
  | z => xT1 z K

/-- For all values of the form that a zero value shows. -/
def allT (z : Value) (f : Value → Prop) : Prop := match z with
  | .int k _ => ∀ n, f (.int k n)
  | .bool _ => ∀ b, f (.bool b)
  | .string _ => ∀ s, f (.string s)
  | .pointer (some _) => ∀ a, f (.pointer (some a))
  | .pointer none => ∀ p, f (.pointer p)
  | .slice _ _ _ => ∀ b n c, f (.slice b n c)
  | .agg _ => ∀ cs : List Value, f (.agg ⟨cs⟩)
  | _ => ∀ v, f v

def allTs : List Value → (List Value → Prop) → Prop
  | [], f => f []
  | z :: zs, f => allT z fun v => allTs zs fun vs => f (v :: vs)

/-- Is a value of the form that a zero value shows? -/
def fits (z v : Value) : Bool := match z, v with
  | .int k _, .int k' _ => decide (k = k')
  | .bool _, .bool _ => true
  | .string _, .string _ => true
  | .pointer none, .pointer _ => true
  | .pointer (some _), .pointer (some _) => true
  | .slice _ _ _, .slice _ _ _ => true
  | .agg _, .agg _ => true
  | .int _ _, _ => false
  | .bool _, _ => false
  | .string _, _ => false
  | .pointer _, _ => false
  | .slice _ _ _, _ => false
  | .agg _, _ => false
  | _, _ => true

def ld (a : Addr) (K : VK) : WK := fun w => ∃ v, w.cell? a = some v ∧ K v w

def Holds (w : World) (a : Addr) (cs : List Value) : Prop := ∀ j v, cs[j]? = some v → w.cell? (a.add j) = some v

def ldN (a : Addr) (n : Nat) (K : List Value → WK) : WK := fun w => ∃ cs, cs.length = n ∧ Holds w a cs ∧ K cs w

def st (a : Addr) (v : Value) (K : WK) : WK := fun w => v.oneCell' = true ∧ (∃ o, w.cell? a = some o) ∧ w.frozen? a = false ∧ K (w.setCell a v)

def setL (w : World) (a : Addr) (i : Nat) : List Value → World
  | [] => w
  | v :: r => setL (w.setCell (a.add i) v) a (i + 1) r

def CanSet (w : World) (a : Addr) (i : Nat) (cs : List Value) : Prop :=
  (∀ v ∈ cs, v.oneCell' = true) ∧ ∀ j, j < cs.length → (∃ o, w.cell? (a.add (i + j)) = some o) ∧ w.frozen? (a.add (i + j)) = false

def stN (a : Addr) (cs : List Value) (K : WK) : WK := fun w => CanSet w a 0 cs ∧ K (setL w a 0 cs)

def mk (cs : List Value) (K : Nat → WK) : WK := fun w => ∀ t, K w.heap.size (w.alloc (.cells ⟨cs⟩ t))

/-- A new block whose type is told. -/
def mkT (t : TypeId) (cs : List Value) (K : Nat → WK) : WK := fun w => K w.heap.size (w.alloc (.cells ⟨cs⟩ t))

def tick (K : WK) : WK := fun w => K w.drew

def callT (T : Tab) (f : Nat) : WP := match T with
  | [] => fun _ _ => no
  | (g, p) :: r => bif Nat.beq g f then p else callT r f

/-- An element's address in a slice. -/
def ixs (b : Option Addr) (len : Nat) (i : Int) (size : Nat) (K : Addr → WK) : WK :=
  fun w => ∃ a, b = some a ∧ (0 ≤ i ∧ i < len) ∧ K (a.add (i.toNat * size)) w

def ixStr (s : ByteArray) (i : Int) (K : UInt8 → WK) : WK := fun w => ∃ c, (0 ≤ i ∧ s.data.toList[i.toNat]? = some c) ∧ K c w

def ixArr (cs : List Value) (len : Nat) (i : Int) (K : VK) : WK := fun w => ∃ v, (0 ≤ i ∧ i < len ∧ cs[i.toNat]? = some v) ∧ K v w

/-- A slice's new beginning. -/
def slAt (b : Option Addr) (cap l size : Nat) : Option Addr := if cap = l then b else b.map (·.add (l * size))

def slSl (b : Option Addr) (len cap size : Nat) (lo hi : Option Int) (K : Option Addr → Nat → Nat → WK) : WK :=
  match hi with
  | none => match lo with
    | none => K (slAt b cap 0 size) len cap
    | some l => chk (0 ≤ l ∧ l ≤ len) (K (slAt b cap l.toNat size) (len - l.toNat) (cap - l.toNat))
  | some h => chk (0 ≤ h ∧ h ≤ cap) (match lo with
    | none => K (slAt b cap 0 size) h.toNat cap
    | some l => chk (0 ≤ l ∧ l ≤ h) (K (slAt b cap l.toNat size) (h.toNat - l.toNat) (cap - l.toNat)))

def slStr (s : ByteArray) (lo hi : Option Int) (K : ByteArray → WK) : WK :=
  match hi with
  | none => match lo with
    | none => K (s.extract 0 s.size)
    | some l => chk (0 ≤ l ∧ l ≤ s.size) (K (s.extract l.toNat s.size))
  | some h => chk (0 ≤ h ∧ h ≤ s.size) (match lo with
    | none => K (s.extract 0 h.toNat)
    | some l => chk (0 ≤ l ∧ l ≤ h) (K (s.extract l.toNat h.toNat)))

/-- What a slice or a string holds: 'n' elements of 'size' cells. -/
def Src (w : World) (n size : Nat) (b : Option Addr) (cs : List Value) : Prop :=
  cs.length = n * size ∧ ∀ a, b = some a → Holds w a cs

def strCells (s : ByteArray) : List Value := s.data.toList.map fun c => .int .u8 c.toNat

/-- 'append' of cells that are known: in place, or into a new row. -/
def appC (size bytes : Nat) (zero : List Value) (b : Option Addr) (len cap n : Nat) (new : List Value) (K : Option Addr → Nat → Nat → WK) : WK := fun w =>
  (len + n ≤ cap → (∀ a, b = some a → CanSet w (a.add (len * size)) 0 new ∧ K b (len + n) cap (setL w (a.add (len * size)) 0 new)) ∧ (b = none → K b (len + n) cap w)) ∧
  (cap < len + n → (len + n) * bytes ≤ 140737488355328 ∧ (len + n : Nat) ≤ (9223372036854775807 : Int) ∧ ∃ old, Src w len size b old ∧ (b = none → len = 0) ∧
    ∀ c' t, len + n ≤ c' → K (some ⟨w.heap.size, 0, none⟩) (len + n) c' (w.drew.alloc (.cells ((old ++ new).toArray ++ Builtin.zeroCells ⟨zero⟩ (c' - (len + n))) t)))

def appSl (size bytes : Nat) (zero : List Value) (b : Option Addr) (len cap : Nat) (b' : Option Addr) (n : Nat) (K : Option Addr → Nat → Nat → WK) : WK := fun w =>
  ∃ new, Src w n size b' new ∧ (b' = none → n = 0) ∧ appC size bytes zero b len cap n new K w

def appStr (b : Option Addr) (len cap : Nat) (s : ByteArray) (K : Option Addr → Nat → Nat → WK) : WK :=
  appC 1 1 [.int .u8 0] b len cap s.size (strCells s) K

def bytesOf (cs : List Value) : List UInt8 := cs.map fun | .int _ n => UInt8.ofNat n.toNat | _ => 0

/-- string(bytes) -/
def b2s (b : Option Addr) (n : Nat) (K : ByteArray → WK) : WK := fun w =>
  (b = none → K .empty w) ∧ ∀ a, b = some a → ∃ cs, cs.length = n ∧ Holds w a cs ∧ (∀ v ∈ cs, ∃ m, v = .int .u8 m) ∧ K ⟨⟨bytesOf cs⟩⟩ w

/-- []byte(string) -/
def s2b (s : ByteArray) (K : Nat → Nat → WK) : WK := fun w =>
  ∀ c t, s.size ≤ c → K w.heap.size c ((w.drew.alloc (.cells ((strCells s).toArray ++ Array.replicate (c - s.size) (.int .u8 0)) t)).freeze ⟨w.heap.size, c, none⟩ 1)

def mkSl (bytes : Nat) (zero : List Value) (len cap : Int) (K : Option Addr → Nat → Nat → WK) : WK := fun w =>
  (0 ≤ len ∧ len ≤ cap ∧ cap ≤ 9223372036854775807 ∧ cap * bytes ≤ 281474976710656) ∧
  ∀ t, K (some ⟨w.heap.size, 0, none⟩) len.toNat cap.toNat (w.alloc (.cells (Builtin.zeroCells ⟨zero⟩ cap.toNat) t))

end Go.Den

/- A predicate-transformer denotation of the model's code: operations and code. -/
namespace Go.Den

def isum (k : IntKind) (op : BinOp) (x y : Int) : Int :=
  match op with
  | .and => k.wrap ((BitVec.ofInt k.bits x &&& BitVec.ofInt k.bits y).toNat)
  | .or => k.wrap ((BitVec.ofInt k.bits x ||| BitVec.ofInt k.bits y).toNat)
  | .xor => k.wrap ((BitVec.ofInt k.bits x ^^^ BitVec.ofInt k.bits y).toNat)
  | _ => k.wrap ((BitVec.ofInt k.bits x &&& ~~~ BitVec.ofInt k.bits y).toNat)

def shl (k : IntKind) (x y : Int) : Int := k.wrap (x * 2 ^ (min y.toNat k.bits))
def shr (k : IntKind) (x y : Int) : Int := x.fdiv (2 ^ (min y.toNat k.bits))

def intDen (op : BinOp) (k : IntKind) (x y : Int) (K : VK) : WK :=
  match op with
  | .add => K (.int k (k.wrap (x + y)))
  | .sub => K (.int k (k.wrap (x - y)))
  | .mul => K (.int k (k.wrap (x * y)))
  | .quo => chk (y ≠ 0) (K (.int k (k.wrap (x.tdiv y))))
  | .rem => chk (y ≠ 0) (K (.int k (x.tmod y)))
  | .and => K (.int k (isum k .and x y))
  | .or => K (.int k (isum k .or x y))
  | .xor => K (.int k (isum k .xor x y))
  | .andNot => K (.int k (isum k .andNot x y))
  | .eql => K (.bool (x == y))
  | .neq => K (.bool (x != y))
  | .lss => K (.bool (decide (x < y)))
  | .leq => K (.bool (decide (x ≤ y)))
  | .gtr => K (.bool (decide (x > y)))
  | .geq => K (.bool (decide (x ≥ y)))
  | .shl => chk (0 ≤ y) (K (.int k (shl k x y)))
  | .shr => chk (0 ≤ y) (K (.int k (shr k x y)))

def strEq (x y : ByteArray) : Bool := x.toList == y.toList

def strDen (op : BinOp) (x y : ByteArray) (K : VK) : WK :=
  match op with
  | .add => chk (((x.size + y.size : Nat) : Int) ≤ 9223372036854775807) (K (.string (x ++ y)))
  | .eql => K (.bool (strEq x y))
  | .neq => K (.bool (!strEq x y))
  | _ => no

/-- The zero cells of the struct types that are compared. -/
abbrev Eqs := List (Nat × List Value)

def eqsOf : Eqs → Nat → Option (List Value)
  | [], _ => none
  | (t, z) :: r, u => bif Nat.beq t u then some z else eqsOf r u

def fitsL : List Value → List Value → Bool
  | [], [] => true
  | z :: zs, v :: vs => fits z v && fitsL zs vs
  | _, _ => false

def eqCell (x y : Value) : Bool := match x, y with
  | .int _ a, .int _ b => a == b
  | .bool a, .bool b => a == b
  | .string a, .string b => strEq a b
  | _, _ => false

def eqCells : List Value → List Value → Bool
  | [], [] => true
  | x :: xs, y :: ys => eqCell x y && eqCells xs ys
  | _, _ => false

/-- '==' of structs of plain cells. -/
def eqC (zs xs ys : List Value) (K : Bool → WK) : WK := fun w => (fitsL zs xs = true ∧ fitsL zs ys = true) ∧ K (eqCells xs ys) w

def binDen (P : Program) (E : Eqs) (op : BinOp) (t : TypeId) (x y : Value) (K : VK) : WK :=
  match x, y with
  | .int k a, .int k' b => match op with
    | .shl => intDen .shl k a b K
    | .shr => intDen .shr k a b K
    | op => bif decide (k = k') then intDen op k a b K else no
  | .string a, .string b => strDen op a b K
  | .bool a, .bool b => match P.underlying t, op with
    | some .bool, .eql => K (.bool (a == b))
    | some .bool, .neq => K (.bool (!(a == b)))
    | _, _ => no
  | .pointer p, .pointer none => match P.underlying t, op with
    | some (.pointer _), .eql => K (.bool p.isNone)
    | some (.pointer _), .neq => K (.bool (!p.isNone))
    | _, _ => no
  | .slice p _ _, .slice none _ _ => match P.underlying t, op with
    | some (.slice _), .eql => K (.bool p.isNone)
    | some (.slice _), .neq => K (.bool (!p.isNone))
    | _, _ => no
  | .agg xs, .agg ys => match eqsOf E t, op with
    | some zs, .eql => eqC zs xs.toList ys.toList fun b => K (.bool b)
    | some zs, .neq => eqC zs xs.toList ys.toList fun b => K (.bool (!b))
    | _, _ => no
  | _, _ => no

def unDen (op : UnOp) (x : Value) (K : VK) : WK :=
  match op, x with
  | .not, .bool b => K (.bool (!b))
  | .neg, .int k n => K (.int k (k.wrap (0 - n)))
  | .xor, .int k n => K (.int k (isum k .xor (if k.signed then -1 else k.max) n))
  | _, _ => no

def convDen (P : Program) (s d : TypeId) (x : Value) (K : VK) : WK :=
  match P.underlying s with
  | none => no
  | some sd => match P.underlying d, x with
    | some (.int k), .int _ n => K (.int k (k.wrap n))
    | some .string, .string _ => K x
    | some (.slice e), .string b => match P.underlying e with
      | some (.int .u8) => s2b b fun r c => K (.slice (some ⟨r, 0, none⟩) b.size c)
      | _ => no
    | some .string, .slice p n _ => match sd with
      | .slice e => match P.underlying e with
        | some (.int .u8) => b2s p n fun b => K (.string b)
        | _ => no
      | _ => no
    | _, _ => no

/-- The zero value of a type, where the tables tell one that fits the type's kind. -/
def zeroOf (P : Program) (t : TypeId) : Option Value :=
  match P.info? t with
  | some i => i.zero
  | none => none

def cellsL (v : Value) : List Value := match v with | .agg cs => cs.toList | v => [v]

def isAggD (d : TypeDesc) : Bool := match d with | .struct _ | .array _ _ => true | _ => false

def ptrAt (r : Nat) : Value := .pointer (some ⟨r, 0, none⟩)

/-- A struct of two fields, of which the first points to such a struct, and the second is a slice (a builder of the library's). -/
def selfFirst (P : Program) (t : TypeId) : Bool :=
  match P.underlying t with
  | some (.struct fs) => match fs.toList with
    | [f, g] => match P.underlying f.type, P.underlying g.type with
      | some (.pointer e), some (.slice _) => Nat.beq e t
      | _, _ => false
    | _ => false
  | _ => false

def loadDen (P : Program) (t : TypeId) (a : Addr) (K : List Value → VK) : WK :=
  match P.underlying t, P.info? t with
  | some d, some i => bif isAggD d then ldN a i.size fun cs => K cs (.agg ⟨cs⟩) else
      match i.zero with
      | some z => ld a (xT1 z fun v => K [v] v)
      | none => no
  | _, _ => no

def storeDen (P : Program) (t : TypeId) (a : Addr) (v : Value) (K : VK) : WK :=
  match P.info? t with
  | some i => match v with
    | .agg cs => chk (cs.toList.length = i.size) (stN a cs.toList (K undef))
    | v => bif Nat.beq i.size 1 then st a v (K undef) else no
  | none => no

/-- A struct's (or an array's) cells out of its parts, field by field in order; what isn't given is zero. 'fs': each field's place and size; 'ps': the parts, rising. -/
def catF (zero : List Value) : List (Nat × Nat) → Nat → Nat → List (Nat × List Value) → Option (List Value × Prop)
  | [], at_, _, ps => bif Nat.beq at_ zero.length then (match ps with | [] => some ([], True) | _ => none) else none
  | (off, n) :: fs, at_, i, ps => bif Nat.beq off at_ then
      (match ps with
      | [] => match catF zero fs (at_ + n) (i + 1) [] with
        | some (r, p) => some ((zero.drop off).take n ++ r, p)
        | none => none
      | (j, cs) :: ps' => bif Nat.beq i j then
          match catF zero fs (at_ + n) (i + 1) ps' with
          | some (r, p) => some (cs ++ r, cs.length = n ∧ p)
          | none => none
        else match catF zero fs (at_ + n) (i + 1) ps with
          | some (r, p) => some ((zero.drop off).take n ++ r, p)
          | none => none)
    else none

def placesL (P : Program) : List Field → Option (List (Nat × Nat))
  | [] => some []
  | f :: fs => match P.info? f.type, placesL P fs with
    | some i, some r => some ((f.offset, i.size) :: r)
    | _, _ => none

def buildDen (P : Program) (t : TypeId) (parts : List (Nat × Value)) (K : VK) : WK :=
  match zeroOf P t, P.underlying t with
  | some (.agg z), some (.struct fs) => match placesL P fs.toList with
    | some pl => match catF z.toList pl 0 0 (parts.map fun p => (p.1, cellsL p.2)) with
      | some (cs, p) => chk p (K (.agg ⟨cs⟩))
      | none => no
    | none => no
  | some (.agg z), some (.array n e) => match P.info? e with
    | some i => match catF z.toList ((List.range n).map fun j => (j * i.size, i.size)) 0 0 (parts.map fun p => (p.1, cellsL p.2)) with
      | some (cs, p) => chk p (K (.agg ⟨cs⟩))
      | none => no
    | none => no
  | _, _ => no

def buildSlDen (P : Program) (t : TypeId) (len : Nat) (parts : List (Nat × Value)) (K : VK) : WK :=
  match P.underlying t with
  | some (.slice e) => match P.info? e with
    | some i => match i.zero with
      | some z => bif Nat.ble (len * i.size) 16777216 && Nat.blt 0 i.size && Nat.beq (cellsL z).length i.size then
          match catF (Builtin.zeroCells ⟨cellsL z⟩ len).toList ((List.range len).map fun j => (j * i.size, i.size)) 0 0 (parts.map fun p => (p.1, cellsL p.2)) with
          | some (cs, p) => chk p (mk cs fun r => K (.slice (some ⟨r, 0, none⟩) len len))
          | none => no
        else no
      | none => no
    | none => no
  | _ => no

def evPs (e : Env) : List (Nat × Operand) → Option (List (Nat × Value))
  | [] => some []
  | (i, x) :: r => match ev e x, evPs e r with
    | some v, some vs => some ((i, v) :: vs)
    | _, _ => none

/-- An optional bound. -/
def evI (e : Env) : Option Operand → Option (Option Int)
  | none => some none
  | some x => match ev e x with
    | some (.int _ n) => some (some n)
    | _ => none

def sliceDen (P : Program) (t : TypeId) (x : Value) (lo hi : Option Int) (K : VK) : WK :=
  match P.underlying t, x with
  | some .string, .string s => slStr s lo hi fun r => K (.string r)
  | some (.slice e), .slice b n c => match P.info? e with
    | some i => slSl b n c i.size lo hi fun b n c => K (.slice b n c)
    | none => no
  | some (.array n e), .pointer (some a) => match P.info? e with
    | some i => slSl (some a) n n i.size lo hi fun b n c => K (.slice b n c)
    | none => no
  | _, _ => no

def indexAddrDen (P : Program) (t : TypeId) (x i : Value) (K : VK) : WK :=
  match P.underlying t, x, i with
  | some (.slice e), .slice b n _, .int _ j => match P.info? e with
    | some i => ixs b n j i.size fun a => K (.pointer (some a))
    | none => no
  | some (.array n e), .pointer (some a), .int _ j => match P.info? e with
    | some i => chk (0 ≤ j ∧ j < n) (K (.pointer (some (a.add (j.toNat * i.size)))))
    | none => no
  | _, _, _ => no

def indexDen (P : Program) (t : TypeId) (x i : Value) (K : VK) : WK :=
  match P.underlying t, x, i with
  | some .string, .string s, .int _ j => ixStr s j fun c => K (.int .u8 c.toNat)
  | some (.array n e), .agg cs, .int _ j => match P.underlying e, P.info? e with
    | some d, some i => bif isAggD d then chk (0 ≤ j ∧ j < n) (K (.agg ⟨(cs.toList.drop (j.toNat * i.size)).take i.size⟩))
      else bif Nat.beq i.size 1 then match i.zero with
        | some z => ixArr cs.toList n j (xT1 z K)
        | none => no
      else no
    | _, _ => no
  | _, _, _ => no

def fieldDen (P : Program) (t : TypeId) (x : Value) (f : Nat) (K : VK) : WK :=
  match P.underlying t, x with
  | some (.struct fs), .agg cs => match fs[f]? with
    | some fl => match P.underlying fl.type, P.info? fl.type with
      | some d, some i => bif isAggD d then K (.agg ⟨(cs.toList.drop fl.offset).take i.size⟩)
        else match i.zero with
          | some z => fun w => ∃ v, cs.toList[fl.offset]? = some v ∧ xT1 z K v w
          | none => no
      | _, _ => no
    | none => no
  | _, _ => no

def fieldAddrDen (P : Program) (t : TypeId) (x : Value) (f : Nat) (K : VK) : WK :=
  match P.underlying t, x with
  | some (.struct fs), .pointer (some a) => match fs[f]? with
    | some fl => match P.info? fl.type with
      | some i => bif Nat.beq i.size 0 then no else K (.pointer (some (a.add fl.offset)))
      | none => no
    | none => no
  | _, _ => no

def lenDen (P : Program) (t : TypeId) (x : Value) (K : VK) : WK :=
  match P.underlying t, x with
  | some .string, .string s => K (.int .i64 s.size)
  | some (.slice _), .slice _ n _ => K (.int .i64 n)
  | some (.array n _), _ => K (.int .i64 n)
  | _, _ => no

def min2 (x y : Int) : Int := if y < x then y else x
def max2 (x y : Int) : Int := if y > x then y else x

def minsD : Int → List Value → Option Int
  | x, [] => some x
  | x, .int _ y :: r => minsD (min2 x y) r
  | _, _ => none
def maxsD : Int → List Value → Option Int
  | x, [] => some x
  | x, .int _ y :: r => maxsD (max2 x y) r
  | _, _ => none

def appDen (P : Program) (t u : TypeId) (s x : Value) (K : VK) : WK :=
  match P.underlying t, s with
  | some (.slice e), .slice b n c => match P.info? e with
    | some i => match i.zero with
      | some z => match P.underlying u, x with
        | some (.slice _), .slice b' m _ => appSl i.size i.bytes (cellsL z) b n c b' m fun b n c => K (.slice b n c)
        | some .string, .string y => bif Nat.beq i.size 1 && Nat.beq i.bytes 1 then match z with
            | .int .u8 0 => appStr b n c y fun b n c => K (.slice b n c)
            | _ => no
          else no
        | _, _ => no
      | none => no
    | none => no
  | _, _ => no

def builtinDen (P : Program) (b : Builtin) (ts : List TypeId) (args : List Value) (K : VK) : WK :=
  match b, ts, args with
  | .len, t :: _, [x] => lenDen P t x K
  | .min, _, .int k x :: r => match minsD x r with | some m => K (.int k m) | none => no
  | .max, _, .int k x :: r => match maxsD x r with | some m => K (.int k m) | none => no
  | .append, [t, u], [s, x] => appDen P t u s x K
  | _, _, _ => no

def callDen (P : Program) (T : Tab) (e : Env) (c : Call) (ty : TypeId) (K : VK) : WK :=
  match evs e c.args.toList with
  | none => no
  | some args => match c.callee with
    | .builtin b => builtinDen P b c.argTypes.toList args K
    | .value f => match ev e f with
      | some (.func (.func g) first cap) => match zeroOf P ty with
        | some z => callT T g (first.toList ++ args ++ cap.toList) (xT z K)
        | none => no
      | _ => no
    | .invoke _ _ => no

def opDen (P : Program) (T : Tab) (E : Eqs) (e : Env) (op : Op) (ty : TypeId) (K : VK) : WK :=
  match op with
  | .move x | .assign x => match ev e x with | some v => K v | none => no
  | .pick c x y => match ev e c with
    | some (.bool b) => br b (match ev e x with | some v => K v | none => no) (match ev e y with | some v => K v | none => no)
    | _ => no
  | .alloc t => match zeroOf P t with
    | some z => bif selfFirst P t then mkT t (cellsL z) fun r => K (ptrAt r) else mk (cellsL z) fun r => K (ptrAt r)
    | none => no
  | .box _ x => match ev e x with
    | some v => mk (cellsL v) fun r => K (ptrAt r)
    | none => no
  | .build t ps => match evPs e ps.toList with
    | some l => buildDen P t l K
    | none => no
  | .buildSlice t n ps => match evPs e ps.toList with
    | some l => buildSlDen P t n l K
    | none => no
  | .load t x => match ev e x with
    | some (.pointer (some a)) => loadDen P t a fun _ => K
    | _ => no
  | .store t x y => match ev e x, ev e y with
    | some (.pointer (some a)), some v => storeDen P t a v K
    | _, _ => no
  | .nilCheck x => match ev e x with
    | some (.pointer p) => nn p fun a => K (.pointer (some a))
    | _ => no
  | .binOp op t x y _ => match ev e x, ev e y with
    | some a, some b => binDen P E op t a b K
    | _, _ => no
  | .unOp op _ x => match ev e x with
    | some a => unDen op a K
    | none => no
  | .convert s d x => match ev e x with
    | some a => convDen P s d a K
    | none => no
  | .makeFunc fn first cap => match evs e first.toList, evs e cap.toList with
    | some f, some c => K (.func fn ⟨f⟩ ⟨c⟩)
    | _, _ => no
  | .makeSlice t n c => match P.underlying t, ev e n, ev e c with
    | some (.slice el), some (.int _ n), some (.int _ c) => match P.info? el with
      | some i => match i.zero with
        | some z => bif Nat.blt 0 i.size && Nat.beq (cellsL z).length i.size then mkSl i.bytes (cellsL z) n c fun b n c => K (.slice b n c) else no
        | none => no
      | none => no
    | _, _, _ => no
  | .slice t x lo hi none => match ev e x, evI e lo, evI e hi with
    | some v, some l, some h => sliceDen P t v l h K
    | _, _, _ => no
  | .fieldAddr t x f => match ev e x with
    | some v => fieldAddrDen P t v f K
    | none => no
  | .field t x f => match ev e x with
    | some v => fieldDen P t v f K
    | none => no
  | .indexAddr t x i => match ev e x, ev e i with
    | some v, some j => indexAddrDen P t v j K
    | _, _ => no
  | .index t x i => match ev e x, ev e i with
    | some v, some j => indexDen P t v j K
    | _, _ => no
  | .extract x i => match ev e x with
    | some (.tuple vs) => match vs[i]? with
      | some v => K v
      | none => no
    | _ => no
  | .call c => callDen P T e c ty K
  | _ => no

def cover : Env → Nat → Bool
  | C, d => match lk C d with | none => true | some _ => false

/-- A temporary is written: it must lie in the frame, and be none of the constants 'C'. -/
def pt (n : Nat) (C : Env) (e : Env) (d : Option Tmp) (v : Value) (K : Env → WK) : WK :=
  match d with
  | none => K e
  | some d => bif Nat.blt d n && cover C d then K ((d, v) :: e) else no

structure Fn where
  P : Program
  T : Tab
  E : Eqs
  n : Nat
  C : Env
  ann : List (Nat × List (Nat × Value))

def gdst (ops : Array Oper) (j : Nat) : Option Tmp := match ops[j]? with | some o => o.dst | none => none

def beqB (a b : Bool) : Bool := match a, b with | true, true => true | false, false => true | _, _ => false

/-- One operation, under its guard: behind a guard that isn't decided the way parts. -/
def oneOp (F : Fn) (ops : Array Oper) (o : Oper) (K : Env → WK) (e : Env) : WK :=
  match o.guard with
  | none => opDen F.P F.T F.E e o.op o.type fun v => pt F.n F.C e o.dst v K
  | some (j, want) => match gdst ops j with
    | none => no
    | some d => match lk e d with
      | some (.bool b) =>
        br b (bif beqB true want then opDen F.P F.T F.E ((d, .bool true) :: e) o.op o.type fun v => pt F.n F.C ((d, .bool true) :: e) o.dst v K else pt F.n F.C ((d, .bool true) :: e) o.dst undef K)
          (bif beqB false want then opDen F.P F.T F.E ((d, .bool false) :: e) o.op o.type fun v => pt F.n F.C ((d, .bool false) :: e) o.dst v K else pt F.n F.C ((d, .bool false) :: e) o.dst undef K)
      | some (.tuple _) => pt F.n F.C e o.dst undef K
      | _ => no

def seqOps (F : Fn) (ops : Array Oper) : List Oper → (Env → WK) → Env → WK
  | [], K, e => K e
  | o :: r, K, e => oneOp F ops o (seqOps F ops r K) e

end Go.Den

/- A predicate-transformer denotation of the model's code: regions that draw their order, and code. -/
namespace Go.Den

/-- 0: an operation that looks at no memory; 1: a load; 2: any other. -/
def cls (P : Program) (op : Op) : Nat :=
  match op with
  | .move _ | .assign _ | .pick _ _ _ | .nilCheck _ | .binOp .. | .unOp .. | .makeFunc .. | .slice .. | .fieldAddr .. | .field .. | .indexAddr .. | .index .. | .extract .. | .build .. => 0
  | .convert _ d _ => match P.underlying d with | some (.int _) => 0 | _ => 2
  | .load _ _ => 1
  | .call c => match c.callee with
    | .builtin .len => 0 | .builtin .min => 0 | .builtin .max => 0
    | _ => 2
  | _ => 2

abbrev Held := List (Nat × Addr × List Value)

/-- What was read, and could have been read now, reads as it did. -/
def keep : Held → WK → WK
  | [], K => K
  | (_, a, cs) :: r, K => fun w => Holds w a cs ∧ keep r K w

def waits (o : Oper) (i : Nat) : Bool := o.after.any fun ed => Region.binds .any ed && Nat.beq ed.on i

def kp (a : Addr) (cs : List Value) (K : WK) : WK := fun w => Holds w a cs ∧ K w
def both (X Y : WK) : WK := fun w => X w ∧ Y w

def stays (o : Oper) (S : Held) : Held := S.filter fun p => !waits o p.1

def allR : List Nat → (Nat → WK) → WK
  | [], _ => fun _ => True
  | [i], f => f i
  | i :: r, f => fun w => f i w ∧ allR r f w

def quietAt (P : Program) (ops : Array Oper) (i : Nat) : Bool := match ops[i]? with | some o => Nat.blt (cls P o.op) 2 | none => false

/-- An operation's denotation, with what it reads. -/
def qDen (F : Fn) (e : Env) (i : Nat) (o : Oper) (S : Held) (K : Held → VK) : WK :=
  match o.op with
  | .load t x => match ev e x with
    | some (.pointer (some a)) => loadDen F.P t a fun cs v => K ((i, a, cs) :: S) v
    | _ => no
  | op => opDen F.P F.T F.E e op o.type (K S)

/-- A guard: none, or decided, or the way parts. -/
def guarded (ops : Array Oper) (o : Oper) (e : Env) (run skip : Env → WK) : WK :=
  match o.guard with
  | none => run e
  | some (j, want) => match gdst ops j with
    | none => no
    | some d => match lk e d with
      | some (.bool b) => br b (bif beqB true want then run ((d, .bool true) :: e) else skip ((d, .bool true) :: e))
          (bif beqB false want then run ((d, .bool false) :: e) else skip ((d, .bool false) :: e))
      | some (.tuple _) => skip e
      | _ => no

def denDraw (F : Fn) (ops : Array Oper) (K : Env → WK) : Nat → Array Bool → Held → Env → WK
  | 0, listed, _, e => match Region.ready .any ops listed with | [] => K e | _ => no
  | f + 1, listed, S, e => match Region.ready .any ops listed with
    | [] => K e
    | r :: rs => match (r :: rs).find? (quietAt F.P ops) with
      | some i => match ops[i]? with
        | some o => bif Region.free .any ops listed i then
            guarded ops o e (fun e => qDen F e i o S fun S v => pt F.n F.C e o.dst v (denDraw F ops K f (listed.setIfInBounds i true) S))
              (fun e => pt F.n F.C e o.dst undef (denDraw F ops K f (listed.setIfInBounds i true) S))
          else no
        | none => no
      | none => allR (r :: rs) fun i => match ops[i]? with
        | some o => guarded ops o e (fun e => opDen F.P F.T F.E e o.op o.type fun v => keep (stays o S) (pt F.n F.C e o.dst v (denDraw F ops K f (listed.setIfInBounds i true) (stays o S))))
              (fun e => pt F.n F.C e o.dst undef (denDraw F ops K f (listed.setIfInBounds i true) S))
        | none => no

/-- A loop is known by the first region in it. -/
def key : Code → Nat
  | .region i _ _ => i
  | .seq a _ => key a
  | .block _ c => key c
  | .cond _ a _ => key a
  | .loop c => key c
  | .scope c => key c
  | _ => 0

def annOf : List (Nat × List (Nat × Value)) → Nat → Option (List (Nat × Value))
  | [], _ => none
  | (k, l) :: r, i => bif Nat.beq k i then some l else annOf r i

/-- The slots' values, if they are of the told forms. -/
def slots (e : Env) : List (Nat × Value) → Option (List Value)
  | [] => some []
  | (t, z) :: r => match lk e t with
    | some v => bif fits z v then (match slots e r with | some vs => some (v :: vs) | none => none) else none
    | none => none

def zipE : List (Nat × Value) → List Value → Env → Env
  | (t, _) :: l, v :: vs, C => (t, v) :: zipE l vs C
  | _, _, C => C

def seqQ (K : Env → WK) (Q : Exit → Env → WK) : Exit → Env → WK
  | .normal, e => K e
  | .exit i, e => Q (.exit i) e
  | .goto l, e => Q (.goto l) e
  | .ret, e => Q .ret e
  | .panic c, e => Q (.panic c) e
  | .outgrown, e => Q .outgrown e

def blockQ (i : Nat) (Q : Exit → Env → WK) : Exit → Env → WK
  | .exit j, e => bif Nat.beq j i then Q .normal e else Q (.exit j) e
  | .normal, e => Q .normal e
  | .goto l, e => Q (.goto l) e
  | .ret, e => Q .ret e
  | .panic c, e => Q (.panic c) e
  | .outgrown, e => Q .outgrown e

def loopQ (l : List (Nat × Value)) (I : List Value → World → Prop) (μ : List Value → World → Nat) (m : Nat) (e : Env) : WK :=
  match slots e l with
  | some vs => fun w => I vs w ∧ μ vs w < m
  | none => no

def den (F : Fn) : Code → (Exit → Env → WK) → Env → WK
  | .skip, Q, e => Q .normal e
  | .ret, Q, e => Q .ret e
  | .exit i, Q, e => Q (.exit i) e
  | .seq x y, Q, e => den F x (seqQ (den F y Q) Q) e
  | .cond c x y, Q, e => match ev e c with
    | some (.bool b) => br b (den F x Q e) (den F y Q e)
    | _ => no
  | .block i c, Q, e => den F c (blockQ i Q) e
  | .loop c, Q, e => match annOf F.ann (key c) with
    | some l => match slots e l with
      | some vs => fun w => ∃ (I : List Value → World → Prop) (μ : List Value → World → Nat), I vs w ∧
          allTs (l.map (·.2)) fun us => ∀ w, I us w → den F c (seqQ (loopQ l I μ (μ us w)) Q) (zipE l us F.C) w
      | none => no
    | none => no
  | .region _ ops draw, Q, e => bif draw then
      (bif Region.noSelect ops then tick (denDraw F ops (Q .normal) ops.size (Array.replicate ops.size false) [] e) else no)
    else seqOps F ops ops.toList (Q .normal) e
  | _, _, _ => no

end Go.Den

/- Soundness: operations that look at no memory. -/
namespace Go.Den

structure Sub (n : Nat) (e : Env) (a : Act) : Prop where
  size : a.tmps.size = n
  defers : a.defers = []
  get : ∀ t v, lk e t = some v → a.tmps[t]? = some v

theorem Sub.eval {n : Nat} {e : Env} {a : Act} (h : Sub n e a) {x : Operand} {v : Value} (hx : ev e x = some v) : a.eval x = v := by
  cases x with
  | tmp t => simp only [ev] at hx; simp [Act.eval, h.get t v hx]
  | const u => simp only [ev] at hx; cases hx; rfl
  | global g => simp only [ev] at hx; cases hx; rfl
  | func f => simp only [ev] at hx; cases hx; rfl

theorem Sub.evals {n : Nat} {e : Env} {a : Act} (h : Sub n e a) : ∀ {xs : List Operand} {vs : List Value}, evs e xs = some vs → xs.map a.eval = vs
  | [], vs, hx => by simp only [evs] at hx; cases hx; rfl
  | x :: xs, vs, hx => by
    simp only [evs] at hx
    cases h1 : ev e x with
    | none => simp [h1] at hx
    | some v =>
      cases h2 : evs e xs with
      | none => simp [h1, h2] at hx
      | some us =>
        simp only [h1, h2, Option.some.injEq] at hx
        subst hx
        simp only [List.map_cons, h.eval h1, h.evals h2]

theorem Sub.evalsA {n : Nat} {e : Env} {a : Act} (h : Sub n e a) {xs : Array Operand} {vs : List Value} (hx : evs e xs.toList = some vs) : xs.map a.eval = ⟨vs⟩ := by
  have := h.evals hx
  rw [← Array.toList_map] at this
  cases hh : xs.map a.eval
  simp only [hh] at this
  subst this
  rfl

theorem Sub.evalPs {n : Nat} {e : Env} {a : Act} (h : Sub n e a) : ∀ {xs : List (Nat × Operand)} {vs : List (Nat × Value)}, evPs e xs = some vs → xs.map (fun p => (p.1, a.eval p.2)) = vs
  | [], vs, hx => by simp only [evPs] at hx; cases hx; rfl
  | (i, x) :: xs, vs, hx => by
    simp only [evPs] at hx
    cases h1 : ev e x with
    | none => simp [h1] at hx
    | some v =>
      cases h2 : evPs e xs with
      | none => simp [h1, h2] at hx
      | some us =>
        simp only [h1, h2, Option.some.injEq] at hx
        subst hx
        simp only [List.map_cons, h.eval h1, h.evalPs h2]

theorem lk_cons_same (e : Env) (d : Nat) (v : Value) : lk ((d, v) :: e) d = some v := by simp [lk]
theorem lk_cons (e : Env) (d t : Nat) (v : Value) : lk ((d, v) :: e) t = if d = t then some v else lk e t := by
  simp only [lk]
  by_cases h : d = t
  · subst h; simp
  · have h' : d.beq t = false := by
      cases hh : d.beq t with
      | true => exact absurd (Nat.eq_of_beq_eq_true hh) h
      | false => rfl
    simp [h, h']

theorem Sub.put {n : Nat} {e : Env} {a : Act} (h : Sub n e a) {d : Nat} (hd : d < n) (v : Value) : Sub n ((d, v) :: e) (a.put (some d) v) := by
  refine ⟨by simp [Act.put, h.size], by simp [Act.put, h.defers], fun t u ht => ?_⟩
  rw [lk_cons] at ht
  simp only [Act.put]
  split at ht
  · rename_i hdt; subst hdt; cases ht
    rw [Array.getElem?_setIfInBounds_self]
    simp [h.size, hd]
  · rename_i hdt
    rw [Array.getElem?_setIfInBounds_ne hdt]
    exact h.get t u ht

/-- A value that is held already may be told again. -/
theorem Sub.again {n : Nat} {e : Env} {a : Act} (h : Sub n e a) {d : Nat} {v : Value} (hd : lk e d = some v) : Sub n ((d, v) :: e) a := by
  refine ⟨h.size, h.defers, fun t u ht => ?_⟩
  rw [lk_cons] at ht
  split at ht
  · rename_i hdt; subst hdt; cases ht; exact h.get _ _ hd
  · exact h.get t u ht

/-- What a run comes to. -/
def To (P : Program) (s : Sem Next) (w : World) (K : VK) : Prop :=
  (∃ v w', s.run P w = .ok (.value v) w' ∧ K v w') ∨ (∃ w', s.run P w = .ok .skip w' ∧ K undef w') ∨
  (∃ g args w', s.run P w = .ok (.enter g args) w' ∧ Calls P g args w' fun e w'' => ∃ v, e = .returned v ∧ K v w'')

/-- It comes to a value, in every world, and leaves the world as it is. -/
def Pure (P : Program) (s : Sem Next) (w : World) (K : VK) : Prop := ∃ v, (∀ w', s.run P w' = .ok (.value v) w') ∧ K v w

theorem Pure.to {P : Program} {s : Sem Next} {w : World} {K : VK} (h : Pure P s w K) : To P s w K :=
  let ⟨v, hr, hk⟩ := h; .inl ⟨v, w, hr w, hk⟩

/-- One value more. -/
def PV (P : Program) (s : Sem Value) (w : World) (K : VK) : Prop := ∃ v, (∀ w', s.run P w' = .ok v w') ∧ K v w

theorem PV.pure {P : Program} {s : Sem Value} {w : World} {K : VK} (h : PV P s w K) : Pure P (do pure (.value (← s))) w K := by
  obtain ⟨v, hr, hk⟩ := h
  exact ⟨v, fun w' => by simp [hr w'], hk⟩

theorem PV.mk {P : Program} {s : Sem Value} {w : World} {K : VK} (v : Value) (hr : ∀ w', s.run P w' = .ok v w') (hk : K v w) : PV P s w K := ⟨v, hr, hk⟩

theorem chk_out {p : Prop} {K : WK} {w : World} (h : chk p K w) : p ∧ K w := h

section
variable {P : Program} {K : VK} {w : World}

theorem run_und {t : TypeId} {d : TypeDesc} (h : P.underlying t = some d) (w : World) : (underlying t).run P w = .ok d w := by simp [underlying, h]

theorem intDen_pv {op : BinOp} {k : IntKind} {x y : Int} {t : TypeId} (h : intDen op k x y K w) : PV P (binOp op t (.int k x) (.int k y)) w K := by
  cases op <;> simp only [intDen, chk] at h <;> first
    | exact ⟨_, fun w' => by simp [binOp, Op.intArith, Op.intBits, Op.intCmp, isum]; done, h⟩
    | (obtain ⟨h1, h2⟩ := h
       refine ⟨_, fun w' => ?_, h2⟩
       simp only [binOp, Op.intDiv, Op.shift, shl, shr, ne_eq, not_true, if_false]
       rw [if_neg (by omega)]
       rfl)

theorem strDen_pv {op : BinOp} {x y : ByteArray} {t : TypeId} (h : strDen op x y K w) : PV P (binOp op t (.string x) (.string y)) w K := by
  cases op <;> simp only [strDen, chk, no] at h
  case add =>
    refine ⟨_, fun w' => ?_, h.2⟩
    have h1 : ¬ (((x.size + y.size : Nat) : Int) > IntKind.i64.max) := by
      have := h.1
      have e : IntKind.i64.max = 9223372036854775807 := by decide
      rw [e]; omega
    simp only [binOp, Op.stringOp]
    rw [if_neg h1]
    rfl
  case eql => exact ⟨_, fun w' => rfl, h⟩
  case neq => exact ⟨_, fun w' => rfl, h⟩

theorem eqGuard_pv {op : BinOp} {t : TypeId} {x y : Operand} {a b : Value} (hn : (a = .nilIface → False)) (hg : ∀ xs ys, a = .agg xs → b = .agg ys → P.eqGuardType P.depth t = false) (w : World) :
    (eqGuard op t x y a b).run P w = .ok () w := by
  cases op <;> try rfl
  all_goals
    cases a <;> cases b <;> first
      | rfl
      | exact (hn rfl).elim
      | (rename_i xs ys
         have := hg _ _ rfl rfl
         simp [eqGuard, this])

theorem run_eq_ptr {t d : TypeId} (h : P.underlying t = some (.pointer d)) (p : Option Addr) (w : World) : (Op.equal t (.pointer p) (.pointer none)).run P w = .ok p.isNone w := by
  show (Op.equalIn (9999 + 1) t _ _).run P w = _
  unfold Op.equalIn
  cases p <;> simp [underlying, h]

theorem run_eq_sl {t d : TypeId} (h : P.underlying t = some (.slice d)) (p : Option Addr) (n c m e : Nat) (w : World) : (Op.equal t (.slice p n c) (.slice none m e)).run P w = .ok p.isNone w := by
  show (Op.equalIn (9999 + 1) t _ _).run P w = _
  unfold Op.equalIn
  cases p <;> simp [underlying, h]

theorem run_eq_bool {t : TypeId} (h : P.underlying t = some .bool) (a b : Bool) (w : World) : (Op.equal t (.bool a) (.bool b)).run P w = .ok (a == b) w := by
  show (Op.equalIn (9999 + 1) t _ _).run P w = _
  unfold Op.equalIn
  simp [underlying, h]

/-- What is told of the struct types that are compared. -/
def EqsOk (P : Program) (E : Eqs) : Prop := ∀ t zs, eqsOf E t = some zs → P.eqGuardType P.depth t = false ∧
  ∀ xs ys, fitsL zs xs = true → fitsL zs ys = true → ∀ w : World, (Op.equal t (.agg ⟨xs⟩) (.agg ⟨ys⟩)).run P w = .ok (eqCells xs ys) w

theorem binDen_pv {E : Eqs} (hE : EqsOk P E) {op : BinOp} {t : TypeId} {x y : Operand} {a b : Value} (h : binDen P E op t a b K w) : PV P (do eqGuard op t x y a b; binOp op t a b) w K := by
  have main : (a = .nilIface → False) → (∀ xs ys, a = .agg xs → b = .agg ys → P.eqGuardType P.depth t = false) → PV P (binOp op t a b) w K → PV P (do eqGuard op t x y a b; binOp op t a b) w K := by
    intro h1 h2 ⟨v, hv, hk⟩
    refine ⟨v, fun w' => ?_, hk⟩
    rw [Sem.run_bind, eqGuard_pv h1 h2]
    exact hv w'
  unfold binDen at h
  split at h
  · refine main (by simp) (by simp) ?_
    split at h
    · exact intDen_pv (t := t) h
    · exact intDen_pv (t := t) h
    · rename_i k a k' b op' _ _
      by_cases hk : k = k'
      · subst hk; simp only [decide_true, cond_true] at h; exact intDen_pv h
      · simp [hk, no] at h
  · exact main (by simp) (by simp) (strDen_pv h)
  · refine main (by simp) (by simp) ?_
    cases hu : P.underlying t with
    | none => simp only [hu, no] at h
    | some d =>
      cases d <;> cases op <;> simp only [hu, no] at h <;> exact ⟨_, fun w' => by simp [binOp, run_eq_bool hu], h⟩
  · refine main (by simp) (by simp) ?_
    cases hu : P.underlying t with
    | none => simp only [hu, no] at h
    | some d =>
      cases d <;> cases op <;> simp only [hu, no] at h <;> exact ⟨_, fun w' => by simp [binOp, run_eq_ptr hu], h⟩
  · refine main (by simp) (by simp) ?_
    cases hu : P.underlying t with
    | none => simp only [hu, no] at h
    | some d =>
      cases d <;> cases op <;> simp only [hu, no] at h <;> exact ⟨_, fun w' => by simp [binOp, run_eq_sl hu], h⟩
  · rename_i xs ys
    cases he : eqsOf E t with
    | none => simp only [he, no] at h
    | some zs =>
      obtain ⟨hg, heq⟩ := hE t zs he
      cases op <;> simp only [he, no] at h <;> (
        obtain ⟨⟨h1, h2⟩, hk⟩ := h
        refine main (by simp) (fun _ _ _ _ => hg) ⟨_, fun w' => ?_, hk⟩
        have hr := heq _ _ h1 h2 w'
        rw [show ∀ z : Array Value, (⟨z.toList⟩ : Array Value) = z from fun z => rfl, show ∀ z : Array Value, (⟨z.toList⟩ : Array Value) = z from fun z => rfl] at hr
        simp only [binOp, Sem.run_bind]
        rw [hr]; rfl)
  · exact h.elim

theorem unDen_pv {op : UnOp} {a : Value} (h : unDen op a K w) : PV P (Op.unary op a) w K := by
  unfold unDen at h
  split at h
  · exact ⟨_, fun w' => rfl, h⟩
  · exact ⟨_, fun w' => rfl, h⟩
  · exact ⟨_, fun w' => rfl, h⟩
  · exact h.elim

theorem run_convert_int {s d : TypeId} {sd : TypeDesc} {k : IntKind} (hs : P.underlying s = some sd) (hd : P.underlying d = some (.int k)) (j : IntKind) (n : Int) (w : World) :
    (convert s d (.int j n)).run P w = .ok (.int k (k.wrap n)) w := by
  simp [convert, underlying, hs, hd, Conv.intToInt]

theorem run_sliceBound {x : Int} {y : Nat} {code : BoundsCode} (h : 0 ≤ x ∧ x ≤ y) (k : IntKind) (w : World) : (Instr.sliceBound (.int k x) y code).run P w = .ok x.toNat w := by
  simp [Instr.sliceBound, asIntOf, h.1, h.2]

end
end Go.Den

/- Soundness: the other operations that look at no memory. -/
namespace Go.Den
section
variable {P : Program} {K : VK} {w : World}

def BI (v : Option Value) (n : Option Int) : Prop := match v, n with
  | none, none => True
  | some v, some n => ∃ k, v = .int k n
  | _, _ => False

theorem Sub.evI {n : Nat} {e : Env} {a : Act} (h : Sub n e a) {x : Option Operand} {r : Option Int} (hx : evI e x = some r) : BI (x.map a.eval) r := by
  cases x with
  | none => simp only [Den.evI, Option.some.injEq] at hx; subst hx; trivial
  | some x =>
    simp only [Den.evI] at hx
    cases h1 : ev e x with
    | none => simp [h1] at hx
    | some v =>
      cases v <;> simp [h1] at hx
      subst hx
      exact ⟨_, by rw [h.eval h1]⟩

def bOk (len cap : Nat) (l h : Option Int) : Prop := match h with
  | none => (match l with | none => True | some l => 0 ≤ l ∧ l ≤ len)
  | some h => (0 ≤ h ∧ h ≤ cap) ∧ (match l with | none => True | some l => 0 ≤ l ∧ l ≤ h)
def bL (l : Option Int) : Nat := match l with | none => 0 | some l => l.toNat
def bH (h : Option Int) (len : Nat) : Nat := match h with | none => len | some h => h.toNat

theorem run_bounds (sl : Bool) {len cap : Nat} {lo hi : Option Value} {l h : Option Int} (hlo : BI lo l) (hhi : BI hi h)
    (ok : bOk len cap l h) (w : World) :
    (Instr.sliceBounds sl len cap lo hi none).run P w = .ok (bL l, bH h len, cap) w := by
  unfold bOk at ok
  cases h with
  | none =>
    cases hi with
    | some v => exact hhi.elim
    | none =>
      cases l with
      | none =>
        cases lo with
        | some v => exact hlo.elim
        | none => simp [Instr.sliceBounds, bL, bH]
      | some l =>
        cases lo with
        | none => exact hlo.elim
        | some v =>
          obtain ⟨k, rfl⟩ := hlo
          simp only at ok
          simp [Instr.sliceBounds, bL, bH, run_sliceBound ok]
  | some h =>
    cases hi with
    | none => exact hhi.elim
    | some v =>
      obtain ⟨k, rfl⟩ := hhi
      simp only at ok
      obtain ⟨ok1, ok2⟩ := ok
      cases l with
      | none =>
        cases lo with
        | some v => exact hlo.elim
        | none => simp [Instr.sliceBounds, bL, bH, run_sliceBound ok1]
      | some l =>
        cases lo with
        | none => exact hlo.elim
        | some v =>
          obtain ⟨k, rfl⟩ := hlo
          have ok3 : 0 ≤ l ∧ l ≤ (h.toNat : Nat) := ⟨ok2.1, by have := ok2.2; omega⟩
          simp [Instr.sliceBounds, bL, bH, run_sliceBound ok1, run_sliceBound ok3]

theorem slStr_out {s : ByteArray} {l h : Option Int} {K : ByteArray → WK} (hh : slStr s l h K w) :
    bOk s.size s.size l h ∧ K (s.extract (bL l) (bH h s.size)) w := by
  unfold bOk bL bH
  unfold slStr chk at hh
  cases h <;> cases l <;> simp only at hh ⊢
  · exact ⟨trivial, hh⟩
  · exact hh
  · exact ⟨⟨hh.1, trivial⟩, hh.2⟩
  · exact ⟨⟨hh.1, hh.2.1⟩, hh.2.2⟩

theorem slSl_out {b : Option Addr} {len cap size : Nat} {l h : Option Int} {K : Option Addr → Nat → Nat → WK} (hh : slSl b len cap size l h K w) :
    bOk len cap l h ∧ K (slAt b cap (bL l) size) (bH h len - bL l) (cap - bL l) w := by
  unfold bOk bL bH
  unfold slSl chk at hh
  cases h <;> cases l <;> simp only at hh ⊢
  · exact ⟨trivial, hh⟩
  · exact hh
  · exact ⟨⟨hh.1, trivial⟩, hh.2⟩
  · exact ⟨⟨hh.1, hh.2.1⟩, hh.2.2⟩

theorem run_sizeOf {t : TypeId} {i : TypeInfo} (h : P.info? t = some i) (w : World) : (sizeOf t).run P w = .ok i.size w := by simp [sizeOf, typeInfo, h]

theorem sliceDen_pv {t : TypeId} {x : Value} {lo hi : Option Value} {l h : Option Int} (hlo : BI lo l) (hhi : BI hi h) (hh : sliceDen P t x l h K w) :
    PV P (Instr.sliceAt t x lo hi none) w K := by
  unfold sliceDen at hh
  generalize hu : P.underlying t = u at hh
  split at hh
  · rename_i s
    obtain ⟨h1, h2⟩ := slStr_out hh
    refine ⟨_, fun w' => ?_, h2⟩
    simp [Instr.sliceAt, Instr.slice, underlying, hu, run_bounds false hlo hhi h1]
  · rename_i e b n c
    cases hi' : P.info? e with
    | none => simp only [hi', no] at hh
    | some i =>
      simp only [hi'] at hh
      obtain ⟨h1, h2⟩ := slSl_out hh
      refine ⟨_, fun w' => ?_, h2⟩
      simp only [Instr.sliceAt, Instr.slice, Sem.run_bind, run_und hu, Result.andThen_ok, run_bounds true hlo hhi h1, run_sizeOf hi', Sem.run_pure, slAt]
  · rename_i n e a
    cases hi' : P.info? e with
    | none => simp only [hi', no] at hh
    | some i =>
      simp only [hi'] at hh
      obtain ⟨h1, h2⟩ := slSl_out hh
      refine ⟨_, fun w' => ?_, h2⟩
      simp only [Instr.sliceAt, Sem.run_bind, run_und hu, Result.andThen_ok, Instr.sureAddr, Sem.run_pure, run_bounds false hlo hhi h1, run_sizeOf hi', slAt]
      split <;> rfl
  · exact hh.elim

theorem xT1_out {z v : Value} {K : VK} (h : xT1 z K v w) : K v w := by
  unfold xT1 at h
  split at h
  · obtain ⟨n, rfl, h⟩ := h; exact h
  · obtain ⟨n, rfl, h⟩ := h; exact h
  · obtain ⟨n, rfl, h⟩ := h; exact h
  · obtain ⟨n, rfl, h⟩ := h; exact h
  · obtain ⟨b, n, c, rfl, h⟩ := h; exact h
  · obtain ⟨cs, rfl, _, h⟩ := h; exact h
  · exact h

theorem xT_out {z v : Value} {K : VK} (h : xT z K v w) : K v w := by
  unfold xT at h
  split at h
  · rename_i zs
    generalize hz : zs.toList = l at h
    split at h
    · obtain ⟨rfl, h⟩ := h; exact h
    · obtain ⟨a, b, rfl, h⟩ := h
      have h1 := xT1_out (K := fun a => xT1 _ (fun b => K (Value.tuple ⟨[a, b]⟩)) b) h
      exact xT1_out (K := fun b => K (Value.tuple ⟨[a, b]⟩)) h1
    · obtain ⟨a, b, c, rfl, h⟩ := h
      have h1 := xT1_out (K := fun a => xT1 _ (fun b => xT1 _ (fun c => K (Value.tuple ⟨[a, b, c]⟩)) c) b) h
      have h2 := xT1_out (K := fun b => xT1 _ (fun c => K (Value.tuple ⟨[a, b, c]⟩)) c) h1
      exact xT1_out (K := fun c => K (Value.tuple ⟨[a, b, c]⟩)) h2
    · exact h.elim
  · exact xT1_out h

theorem indexAddrDen_pv {t : TypeId} {x i : Value} (hh : indexAddrDen P t x i K w) : PV P (Instr.indexAt t x i) w K := by
  unfold indexAddrDen at hh
  generalize hu : P.underlying t = u at hh
  split at hh
  · rename_i e b n c k j
    cases hi' : P.info? e with
    | none => simp only [hi', no] at hh
    | some i =>
      simp only [hi'] at hh
      obtain ⟨a, rfl, hb, hk⟩ := hh
      refine ⟨_, fun w' => ?_, hk⟩
      simp [Instr.indexAt, asIntOf, hb.1, hb.2, Sem.run_bind, underlying, hu, sizeOf, typeInfo, hi']
  · rename_i n e a k j
    cases hi' : P.info? e with
    | none => simp only [hi', no] at hh
    | some i =>
      simp only [hi'] at hh
      obtain ⟨hb, hk⟩ := hh
      refine ⟨_, fun w' => ?_, hk⟩
      simp [Instr.indexAt, asIntOf, hb.1, hb.2, Sem.run_bind, underlying, hu, sizeOf, typeInfo, hi', Instr.sureAddr]
  · exact hh.elim

theorem isAggD_run {t : TypeId} {d : TypeDesc} (h : P.underlying t = some d) (w : World) : (isAgg t).run P w = .ok (isAggD d) w := by
  simp only [isAgg, Sem.run_bind, run_und h, Result.andThen_ok, isAggD]
  split <;> simp_all

theorem run_part_agg {t : TypeId} {d : TypeDesc} {i : TypeInfo} (h : P.underlying t = some d) (hi : P.info? t = some i) (ha : isAggD d = true) (cs : Array Value) (off : Nat) (w : World) :
    (part t cs off).run P w = .ok (.agg ⟨(cs.toList.drop off).take i.size⟩) w := by
  simp only [part, Sem.run_bind, isAggD_run h, Result.andThen_ok, ha, if_true, run_sizeOf hi, Sem.run_pure]
  congr 3
  apply Array.ext'
  simp [List.take_drop]

theorem run_part_one {t : TypeId} {d : TypeDesc} (h : P.underlying t = some d) (ha : isAggD d = false) {cs : Array Value} {off : Nat} {v : Value} (hv : cs.toList[off]? = some v) (w : World) :
    (part t cs off).run P w = .ok v w := by
  have hv' : cs[off]? = some v := by simpa using hv
  simp [part, isAggD_run h, ha, hv']

theorem ofNat_str (s : ByteArray) (n : Nat) : s[n]? = s.data.toList[n]? := by
  by_cases h : n < s.size
  · rw [getElem?_pos s n h]
    have h2 : n < s.data.toList.length := by simpa using h
    rw [List.getElem?_eq_getElem h2]
    simp [ByteArray.getElem_eq_getElem_data]
  · rw [getElem?_neg s n h]
    rw [List.getElem?_eq_none]
    simp only [Array.length_toList]
    have : s.data.size = s.size := rfl
    omega

theorem indexDen_pv {t : TypeId} {x i : Value} (hh : indexDen P t x i K w) : PV P (Instr.index t x i) w K := by
  unfold indexDen at hh
  generalize hu : P.underlying t = u at hh
  split at hh
  · rename_i s k j
    obtain ⟨c, ⟨h0, hc⟩, hk⟩ := hh
    refine ⟨_, fun w' => ?_, hk⟩
    have hc' : s[j.toNat]? = some c := by rw [ofNat_str]; exact hc
    simp [Instr.index, asIntOf, underlying, hu, h0, hc']
  · rename_i n e cs k j
    cases hd : P.underlying e with
    | none => simp only [hd, no] at hh
    | some d =>
      cases hi' : P.info? e with
      | none => simp only [hd, hi', no] at hh
      | some i =>
        simp only [hd, hi'] at hh
        cases ha : isAggD d with
        | true =>
          simp only [ha, cond_true] at hh
          obtain ⟨hb, hk⟩ := hh
          refine ⟨_, fun w' => ?_, hk⟩
          simp [Instr.index, asIntOf, run_und hu, hb.1, hb.2, run_sizeOf hi', run_part_agg hd hi' ha]
        | false =>
          simp only [ha, cond_false] at hh
          cases hs : Nat.beq i.size 1 with
          | false => simp [hs, no] at hh
          | true =>
            have hs' : i.size = 1 := Nat.eq_of_beq_eq_true hs
            simp only [hs, cond_true] at hh
            cases hz : i.zero with
            | none => simp only [hz, no] at hh
            | some z =>
              simp only [hz] at hh
              obtain ⟨v, ⟨h0, h1, hv⟩, hk⟩ := hh
              refine ⟨v, fun w' => ?_, xT1_out hk⟩
              simp [Instr.index, asIntOf, run_und hu, h0, h1, run_sizeOf hi', hs', run_part_one hd ha hv]
  · exact hh.elim

theorem fieldDen_pv {t : TypeId} {x : Value} {f : Nat} (hh : fieldDen P t x f K w) : PV P (Instr.field t x f) w K := by
  unfold fieldDen at hh
  generalize hu : P.underlying t = u at hh
  split at hh
  · rename_i fs cs
    cases hf : fs[f]? with
    | none => simp only [hf, no] at hh
    | some fl =>
      simp only [hf] at hh
      cases hd : P.underlying fl.type with
      | none => simp only [hd, no] at hh
      | some d =>
        cases hi' : P.info? fl.type with
        | none => simp only [hd, hi', no] at hh
        | some i =>
          simp only [hd, hi'] at hh
          cases ha : isAggD d with
          | true =>
            simp only [ha, cond_true] at hh
            refine ⟨_, fun w' => ?_, hh⟩
            simp [Instr.field, run_und hu, hf, asAgg, run_part_agg hd hi' ha]
          | false =>
            simp only [ha, cond_false] at hh
            cases hz : i.zero with
            | none => simp only [hz, no] at hh
            | some z =>
              simp only [hz] at hh
              obtain ⟨v, hv, hk⟩ := hh
              refine ⟨v, fun w' => ?_, xT1_out hk⟩
              simp [Instr.field, run_und hu, hf, asAgg, run_part_one hd ha hv]
  · exact hh.elim

theorem fieldAddrDen_pv {t : TypeId} {x : Value} {f : Nat} (hh : fieldAddrDen P t x f K w) : PV P (Instr.fieldAt t x f) w K := by
  unfold fieldAddrDen at hh
  generalize hu : P.underlying t = u at hh
  split at hh
  · rename_i fs a
    cases hf : fs[f]? with
    | none => simp only [hf, no] at hh
    | some fl =>
      simp only [hf] at hh
      cases hi' : P.info? fl.type with
      | none => simp only [hi', no] at hh
      | some i =>
        simp only [hi'] at hh
        cases hs : Nat.beq i.size 0 with
        | true => simp [hs, no] at hh
        | false =>
          have hs' : i.size ≠ 0 := fun h => by simp [h] at hs
          simp only [hs, cond_false] at hh
          refine ⟨_, fun w' => ?_, hh⟩
          simp [Instr.fieldAt, run_und hu, hf, Instr.sureAddr, fieldPlace, run_sizeOf hi', hs']
  · exact hh.elim

theorem lenDen_pv {t ty : TypeId} {ts : Array TypeId} {x : Value} (ht : ts.toList = [t] ∨ ∃ r, ts.toList = t :: r) (hh : lenDen P t x K w) : PV P (Builtin.len_ ts ty #[x]) w K := by
  have h0 : ts[0]? = some t := by
    cases ts
    rcases ht with h | ⟨r, h⟩ <;> simp only at h <;> subst h <;> rfl
  unfold lenDen at hh
  generalize hu : P.underlying t = u at hh
  split at hh
  · exact ⟨_, fun w' => by simp [Builtin.len_, h0, run_und hu, goInt], hh⟩
  · exact ⟨_, fun w' => by simp [Builtin.len_, h0, run_und hu, goInt], hh⟩
  · exact ⟨_, fun w' => by simp [Builtin.len_, h0, run_und hu, goInt], hh⟩
  · exact hh.elim

theorem minsD_run {k : IntKind} : ∀ {x : Int} {l : List Value} {m : Int}, minsD x l = some m → ∀ w : World, (l.foldlM Builtin.min2 (.int k x)).run P w = .ok (.int k m) w
  | x, [], m, h, w => by simp only [minsD, Option.some.injEq] at h; subst h; rfl
  | x, .int j y :: r, m, h, w => by
    simp only [minsD] at h
    have := minsD_run (k := k) h w
    simp only [List.foldlM_cons, Sem.run_bind, Builtin.min2, Sem.run_pure, Result.andThen_ok]
    exact this
  | x, .bool _ :: _, m, h, w => by simp [minsD] at h
  | x, .float _ _ :: _, m, h, w => by simp [minsD] at h
  | x, .complex _ _ _ :: _, m, h, w => by simp [minsD] at h
  | x, .string _ :: _, m, h, w => by simp [minsD] at h
  | x, .pointer _ :: _, m, h, w => by simp [minsD] at h
  | x, .slice _ _ _ :: _, m, h, w => by simp [minsD] at h
  | x, .map _ :: _, m, h, w => by simp [minsD] at h
  | x, .chan _ :: _, m, h, w => by simp [minsD] at h
  | x, .func _ _ _ :: _, m, h, w => by simp [minsD] at h
  | x, .nilFunc :: _, m, h, w => by simp [minsD] at h
  | x, .iface _ _ :: _, m, h, w => by simp [minsD] at h
  | x, .nilIface :: _, m, h, w => by simp [minsD] at h
  | x, .agg _ :: _, m, h, w => by simp [minsD] at h
  | x, .tuple _ :: _, m, h, w => by simp [minsD] at h

theorem maxsD_run {k : IntKind} : ∀ {l : List Value} {x : Int} {m : Int}, maxsD x l = some m → ∀ w : World, (l.foldlM Builtin.max2 (.int k x)).run P w = .ok (.int k m) w := by
  intro l
  induction l with
  | nil => intro x m h w; simp only [maxsD, Option.some.injEq] at h; subst h; rfl
  | cons v r ih =>
    intro x m h w
    cases v <;> simp only [maxsD, reduceCtorEq] at h
    rename_i j y
    simp only [List.foldlM_cons, Sem.run_bind, Builtin.max2, Sem.run_pure, Result.andThen_ok]
    exact ih h w

end
end Go.Den

/- Soundness: structs that are built; loads, stores, new rows, 'append'. -/
namespace Go.Den
section
variable {P : Program} {K : VK} {w : World}

theorem cells_toList (v : Value) : v.cells.toList = cellsL v := by cases v <;> rfl

theorem foldl_set : ∀ (cs : List Value) (A B C : List Value) (k off : Nat), A.length = off + k → B.length = cs.length →
    (cs.zipIdx k).foldl (fun (z : Array Value) (p : Value × Nat) => z.setIfInBounds (off + p.2) p.1) ⟨A ++ B ++ C⟩ = ⟨A ++ cs ++ C⟩
  | [], A, B, C, k, off, h1, h2 => by
    have : B = [] := List.eq_nil_of_length_eq_zero h2
    subst this; rfl
  | c :: cs, A, B, C, k, off, h1, h2 => by
    cases B with
    | nil => simp at h2
    | cons b B =>
      simp only [List.zipIdx_cons, List.foldl_cons]
      have e : (⟨A ++ (b :: B) ++ C⟩ : Array Value).setIfInBounds (off + k) c = ⟨(A ++ [c]) ++ B ++ C⟩ := by
        apply Array.ext'
        rw [Array.toList_setIfInBounds]
        simp only [List.append_assoc, List.cons_append, List.nil_append]
        rw [← h1, List.set_append]
        simp
      rw [e, foldl_set cs (A ++ [c]) B C (k + 1) off (by simp; omega) (by simpa using h2)]
      simp

theorem fill_step (A B C : List Value) (v : Value) (off : Nat) (h1 : A.length = off) (h2 : B.length = (cellsL v).length) :
    v.cells.zipIdx.foldl (fun (z : Array Value) (p : Value × Nat) => z.setIfInBounds (off + p.2) p.1) ⟨A ++ B ++ C⟩ = ⟨A ++ cellsL v ++ C⟩ := by
  rw [← Array.foldl_toList, Array.toList_zipIdx, cells_toList]
  exact foldl_set (cellsL v) A B C 0 off (by omega) h2

theorem catF_fill (PL : List (Nat × Nat)) (place : Nat → Option (Nat × Nat)) (hp : ∀ j x, PL[j]? = some x → place j = some x) (zero : List Value) :
    ∀ (fs : List (Nat × Nat)) (at_ i : Nat) (done : List Value) (ps : List (Nat × Value)) (r : List Value) (p : Prop), fs = PL.drop i → done.length = at_ → at_ ≤ zero.length →
      catF zero fs at_ i (ps.map fun q => (q.1, cellsL q.2)) = some (r, p) → p →
      Instr.fill place ⟨done ++ zero.drop at_⟩ ps = some ⟨done ++ r⟩
  | [], at_, i, done, ps, r, p, hfs, hd, hz, h, hpp => by
    simp only [catF] at h
    cases hb : Nat.beq at_ zero.length with
    | false => simp [hb] at h
    | true =>
      simp only [hb, cond_true] at h
      have he := Nat.eq_of_beq_eq_true hb
      cases ps with
      | nil =>
        simp only [List.map_nil, Option.some.injEq, Prod.mk.injEq] at h
        obtain ⟨rfl, _⟩ := h
        simp [Instr.fill, he]
      | cons q ps => simp at h
  | (off, n) :: fs, at_, i, done, ps, r, p, hfs, hd, hz, h, hpp => by
    simp only [catF] at h
    have hPL : PL[i]? = some (off, n) := by
      have : (PL.drop i)[0]? = some (off, n) := by rw [← hfs]; rfl
      simpa using this
    have hfs' : fs = PL.drop (i + 1) := by
      have : (PL.drop i).tail = fs := by rw [← hfs]; rfl
      rw [← this, List.tail_drop]
    cases hb : Nat.beq off at_ with
    | false => simp [hb] at h
    | true =>
      simp only [hb, cond_true] at h
      have he := Nat.eq_of_beq_eq_true hb
      subst he
      have skip : ∀ r', catF zero fs (off + n) (i + 1) (ps.map fun q => (q.1, cellsL q.2)) = some (r', p) → r = (zero.drop off).take n ++ r' → off + n ≤ zero.length → Instr.fill place ⟨done ++ zero.drop off⟩ ps = some ⟨done ++ r⟩ := by
        intro r' h' hr hle
        have := catF_fill PL place hp zero fs (off + n) (i + 1) (done ++ (zero.drop off).take n) ps r' p hfs' (by simp; omega) hle h' hpp
        rw [List.append_assoc, List.append_assoc] at this
        rw [← hr] at this
        rw [← this]
        congr 3
        rw [← List.drop_drop, List.take_append_drop]
      have bound : ∀ (fs : List (Nat × Nat)) (a i : Nat) (qs : List (Nat × List Value)) (x : List Value × Prop), catF zero fs a i qs = some x → a ≤ zero.length := by
        intro fs
        induction fs with
        | nil =>
          intro a i qs x hx
          simp only [catF] at hx
          cases hb : Nat.beq a zero.length with
          | false => simp [hb] at hx
          | true => exact Nat.le_of_eq (Nat.eq_of_beq_eq_true hb)
        | cons f fs ih =>
          intro a i qs x hx
          obtain ⟨o, m⟩ := f
          simp only [catF] at hx
          cases hb : Nat.beq o a with
          | false => simp [hb] at hx
          | true =>
            simp only [hb, cond_true] at hx
            have key : ∀ qs', (∃ y, catF zero fs (a + m) (i + 1) qs' = some y) → a ≤ zero.length := fun qs' ⟨y, hy⟩ => by have := ih _ _ _ _ hy; omega
            cases qs with
            | nil =>
              cases hc : catF zero fs (a + m) (i + 1) [] with
              | none => simp [hc] at hx
              | some y => exact key _ ⟨y, hc⟩
            | cons q qs =>
              obtain ⟨j, cs⟩ := q
              cases hj : Nat.beq i j with
              | true =>
                simp only [hj, cond_true] at hx
                cases hc : catF zero fs (a + m) (i + 1) qs with
                | none => simp [hc] at hx
                | some y => exact key _ ⟨y, hc⟩
              | false =>
                simp only [hj, cond_false] at hx
                cases hc : catF zero fs (a + m) (i + 1) ((j, cs) :: qs) with
                | none => simp [hc] at hx
                | some y => exact key _ ⟨y, hc⟩
      cases ps with
      | nil =>
        simp only [List.map_nil] at h skip
        cases hc : catF zero fs (off + n) (i + 1) [] with
        | none => simp [hc] at h
        | some y =>
          obtain ⟨r', p'⟩ := y
          simp only [hc, Option.some.injEq, Prod.mk.injEq] at h
          obtain ⟨h1, h2⟩ := h
          subst h2
          exact skip r' hc h1.symm (bound _ _ _ _ _ hc)
      | cons q ps =>
        obtain ⟨j, v⟩ := q
        simp only [List.map_cons] at h skip
        cases hj : Nat.beq i j with
        | true =>
          simp only [hj, cond_true] at h
          have hij := Nat.eq_of_beq_eq_true hj
          subst hij
          cases hc : catF zero fs (off + n) (i + 1) (ps.map fun q => (q.1, cellsL q.2)) with
          | none => simp [hc] at h
          | some y =>
            obtain ⟨r', p'⟩ := y
            simp only [hc, Option.some.injEq, Prod.mk.injEq] at h
            obtain ⟨h1, h2⟩ := h
            subst h2
            obtain ⟨hlen, hp'⟩ := hpp
            have hle := bound _ _ _ _ _ hc
            have := catF_fill PL place hp zero fs (off + n) (i + 1) (done ++ cellsL v) ps r' p' hfs' (by simp; omega) hle hc hp'
            rw [List.append_assoc, List.append_assoc, h1] at this
            simp only [Instr.fill, hp i _ hPL]
            have hsz : v.cells.size = n := by rw [← hlen, ← cells_toList]; simp
            have hnn : ¬ ((decide (v.cells.size ≠ n) || decide (off + v.cells.size > (⟨done ++ zero.drop off⟩ : Array Value).size)) = true) := by
              simp [hsz]; omega
            rw [if_neg hnn]
            have e : (⟨done ++ zero.drop off⟩ : Array Value) = ⟨done ++ (zero.drop off).take n ++ zero.drop (off + n)⟩ := by
              rw [List.append_assoc, ← List.drop_drop, List.take_append_drop]
            rw [e, fill_step done ((zero.drop off).take n) (zero.drop (off + n)) v off hd (by simp [hlen]; omega)]
            rw [← this, List.append_assoc]
        | false =>
          simp only [hj, cond_false] at h
          cases hc : catF zero fs (off + n) (i + 1) ((j, cellsL v) :: ps.map fun q => (q.1, cellsL q.2)) with
          | none => simp [hc] at h
          | some y =>
            obtain ⟨r', p'⟩ := y
            simp only [hc, Option.some.injEq, Prod.mk.injEq] at h
            obtain ⟨h1, h2⟩ := h
            subst h2
            exact skip r' hc h1.symm (bound _ _ _ _ _ hc)

end
end Go.Den
