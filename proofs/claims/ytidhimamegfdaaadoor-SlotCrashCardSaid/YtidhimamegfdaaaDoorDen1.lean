/- A predicate-transformer denotation of the model's code, over partial environments: definitions. -/
import Derived.OrdersHeld
import Derived.Calls
import Derived.KernelRfl
import Derived.Laws.Append
import Derived.Laws.CopyRow
namespace Go.Den
set_option linter.unusedSimpArgs false
set_option linter.unusedVariables false

abbrev Env := List (Nat × Value)
abbrev WK := World → Prop
abbrev VK := Value → World → Prop
abbrev WP := List Value → VK → WK
abbrev Tab := List (Nat × WP)

def lk : Env → Nat → Option Value
  | [], _ => none
  | (s, v) :: e, t => bif Nat.beq s t then some v else lk e t

def no : WK := fun _ => False

def ev (e : Env) : Operand → Option Value
  | .tmp t => lk e t
  | .const v => some v
  | .global g => some (.pointer (some ⟨g, 0, none⟩))
  | .func f => some (.func (.func f) #[] #[])

def evs (e : Env) : List Operand → Option (List Value)
  | [] => some []
  | x :: xs => match ev e x with
    | some v => match evs e xs with
      | some vs => some (v :: vs)
      | none => none
    | none => none

/-! ### Primitives -/

def chk (p : Prop) (K : WK) : WK := fun w => p ∧ K w

def br (b : Bool) (X Y : WK) : WK := match b with | true => X | false => Y

def nn (p : Option Addr) (K : Addr → WK) : WK := match p with | some a => K a | none => no

def xI (k : IntKind) (K : Int → WK) : VK := fun v w => ∃ n, v = .int k n ∧ K n w
def xB (K : Bool → WK) : VK := fun v w => ∃ b, v = .bool b ∧ K b w
def xS (K : ByteArray → WK) : VK := fun v w => ∃ s, v = .string s ∧ K s w
def xP (K : Option Addr → WK) : VK := fun v w => ∃ p, v = .pointer p ∧ K p w
def xL (K : Option Addr → Nat → Nat → WK) : VK := fun v w => ∃ b n c, v = .slice b n c ∧ K b n c w
def xA (n : Nat) (K : List Value → WK) : VK := fun v w => ∃ cs, v = .agg ⟨cs⟩ ∧ cs.length = n ∧ K cs w

/-- The value is of the form that a zero value shows. -/
def xT1 (z : Value) (K : VK) : VK := match z with
  | .int k _ => xI k fun n => K (.int k n)
  | .bool _ => xB fun b => K (.bool b)
  | .string _ => xS fun s => K (.string s)
  | .pointer _ => xP fun p => K (.pointer p)
  | .slice _ _ _ => xL fun b n c => K (.slice b n c)
  | .agg zs => xA zs.size fun cs => K (.agg ⟨cs⟩)
  | _ => K

def x0 (K : WK) : VK := fun v w => v = .tuple ⟨[]⟩ ∧ K w
def x2 (K : Value → Value → WK) : VK := fun v w => ∃ a b, v = .tuple ⟨[a, b]⟩ ∧ K a b w
def x3 (K : Value → Value → Value → WK) : VK := fun v w => ∃ a b c, v = .tuple ⟨[a, b, c]⟩ ∧ K a b c w

def xT (z : Value) (K : VK) : VK := match z with
  | .tuple zs => match zs.toList with
    | [] => x0 (K (.tuple ⟨[]⟩))
    | [y, z] => x2 fun a b => xT1 y (fun a => xT1 z (fun b => K (.tuple ⟨[a, b]⟩)) b) a
    | [x, y, z] => x3 fun a b c => xT1 x (fun a => xT1 y (fun b => xT1 z (fun c => K (.tuple ⟨[a, b, c]⟩)) c) b) a
    | _ => fun _ => no
  | z => xT1 z K

/-- For all values of the form that a zero value shows. -/
def allT (z : Value) (f : Value → Prop) : Prop := match z with
  | .int k _ => ∀ n, f (.int k n)
  | .bool _ => ∀ b, f (.bool b)
  | .string _ => ∀ s, f (.string s)
  | .pointer (some _) => ∀ a, f (.pointer (some a))
  | .pointer none => ∀ p, f (.pointer p)
  | .slice _ _ _ => ∀ b n c, f (.slice b n c)
  | .agg _ => ∀ cs : List Value, f (.agg ⟨cs⟩)
  | _ => ∀ v, f v

def allTs : List Value → (List Value → Prop) → Prop
  | [], f => f []
  | z :: zs, f => allT z fun v => allTs zs fun vs => f (v :: vs)

/-- Is a value of the form that a zero value shows? -/
def fits (z v : Value) : Bool := match z, v with
  | .int k _, .int k' _ => decide (k = k')
  | .bool _, .bool _ => true
  | .string _, .string _ => true
  | .pointer none, .pointer _ => true
  | .pointer (some _), .pointer (some _) => true
  | .slice _ _ _, .slice _ _ _ => true
  | .agg _, .agg _ => true
  | .int _ _, _ => false
  | .bool _, _ => false
  | .string _, _ => false
  | .pointer _, _ => false
  | .slice _ _ _, _ => false
  | .agg _, _ => false
  | _, _ => true

def ld (a : Addr) (K : VK) : WK := fun w => ∃ v, w.cell? a = some v ∧ K v w

def Holds (w : World) (a : Addr) (cs : List Value) : Prop := ∀ j v, cs[j]? = some v → w.cell? (a.add j) = some v

def ldN (a : Addr) (n : Nat) (K : List Value → WK) : WK := fun w => ∃ cs, cs.length = n ∧ Holds w a cs ∧ K cs w

def st (a : Addr) (v : Value) (K : WK) : WK := fun w => v.oneCell' = true ∧ (∃ o, w.cell? a = some o) ∧ w.frozen? a = false ∧ K (w.setCell a v)

def setL (w : World) (a : Addr) (i : Nat) : List Value → World
  | [] => w
  | v :: r => setL (w.setCell (a.add i) v) a (i + 1) r

def CanSet (w : World) (a : Addr) (i : Nat) (cs : List Value) : Prop :=
  (∀ v ∈ cs, v.oneCell' = true) ∧ ∀ j, j < cs.length → (∃ o, w.cell? (a.add (i + j)) = some o) ∧ w.frozen? (a.add (i + j)) = false

def stN (a : Addr) (cs : List Value) (K : WK) : WK := fun w => CanSet w a 0 cs ∧ K (setL w a 0 cs)

def mk (cs : List Value) (K : Nat → WK) : WK := fun w => ∀ t, K w.heap.size (w.alloc (.cells ⟨cs⟩ t))

/-- A new block whose type is told. -/
def mkT (t : TypeId) (cs : List Value) (K : Nat → WK) : WK := fun w => K w.heap.size (w.alloc (.cells ⟨cs⟩ t))

def tick (K : WK) : WK := fun w => K w.drew

def callT (T : Tab) (f : Nat) : WP := match T with
  | [] => fun _ _ => no
  | (g, p) :: r => bif Nat.beq g f then p else callT r f

/-- An element's address in a slice. -/
def ixs (b : Option Addr) (len : Nat) (i : Int) (size : Nat) (K : Addr → WK) : WK :=
  fun w => ∃ a, b = some a ∧ (0 ≤ i ∧ i < len) ∧ K (a.add (i.toNat * size)) w

def ixStr (s : ByteArray) (i : Int) (K : UInt8 → WK) : WK := fun w => ∃ c, (0 ≤ i ∧ s.data.toList[i.toNat]? = some c) ∧ K c w

def ixArr (cs : List Value) (len : Nat) (i : Int) (K : VK) : WK := fun w => ∃ v, (0 ≤ i ∧ i < len ∧ cs[i.toNat]? = some v) ∧ K v w

/-- A slice's new beginning. -/
def slAt (b : Option Addr) (cap l size : Nat) : Option Addr := if cap = l then b else b.map (·.add (l * size))

def slSl (b : Option Addr) (len cap size : Nat) (lo hi : Option Int) (K : Option Addr → Nat → Nat → WK) : WK :=
  match hi with
  | none => match lo with
    | none => K (slAt b cap 0 size) len cap
    | some l => chk (0 ≤ l ∧ l ≤ len) (K (slAt b cap l.toNat size) (len - l.toNat) (cap - l.toNat))
  | some h => chk (0 ≤ h ∧ h ≤ cap) (match lo with
    | none => K (slAt b cap 0 size) h.toNat cap
    | some l => chk (0 ≤ l ∧ l ≤ h) (K (slAt b cap l.toNat size) (h.toNat - l.toNat) (cap - l.toNat)))

def slStr (s : ByteArray) (lo hi : Option Int) (K : ByteArray → WK) : WK :=
  match hi with
  | none => match lo with
    | none => K (s.extract 0 s.size)
    | some l => chk (0 ≤ l ∧ l ≤ s.size) (K (s.extract l.toNat s.size))
  | some h => chk (0 ≤ h ∧ h ≤ s.size) (match lo with
    | none => K (s.extract 0 h.toNat)
    | some l => chk (0 ≤ l ∧ l ≤ h) (K (s.extract l.toNat h.toNat)))

/-- What a slice or a string holds: 'n' elements of 'size' cells. -/
def Src (w : World) (n size : Nat) (b : Option Addr) (cs : List Value) : Prop :=
  cs.length = n * size ∧ ∀ a, b = some a → Holds w a cs

def strCells (s : ByteArray) : List Value := s.data.toList.map fun c => .int .u8 c.toNat

/-- 'append' of cells that are known: in place, or into a new row. -/
def appC (size bytes : Nat) (zero : List Value) (b : Option Addr) (len cap n : Nat) (new : List Value) (K : Option Addr → Nat → Nat → WK) : WK := fun w =>
  (len + n ≤ cap → (∀ a, b = some a → CanSet w (a.add (len * size)) 0 new ∧ K b (len + n) cap (setL w (a.add (len * size)) 0 new)) ∧ (b = none → K b (len + n) cap w)) ∧
  (cap < len + n → (len + n) * bytes ≤ 140737488355328 ∧ (len + n : Nat) ≤ (9223372036854775807 : Int) ∧ ∃ old, Src w len size b old ∧ (b = none → len = 0) ∧
    ∀ c' t, len + n ≤ c' → K (some ⟨w.heap.size, 0, none⟩) (len + n) c' (w.drew.alloc (.cells ((old ++ new).toArray ++ Builtin.zeroCells ⟨zero⟩ (c' - (len + n))) t)))

def appSl (size bytes : Nat) (zero : List Value) (b : Option Addr) (len cap : Nat) (b' : Option Addr) (n : Nat) (K : Option Addr → Nat → Nat → WK) : WK := fun w =>
  ∃ new, Src w n size b' new ∧ (b' = none → n = 0) ∧ appC size bytes zero b len cap n new K w

def appStr (b : Option Addr) (len cap : Nat) (s : ByteArray) (K : Option Addr → Nat → Nat → WK) : WK :=
  appC 1 1 [.int .u8 0] b len cap s.size (strCells s) K

def bytesOf (cs : List Value) : List UInt8 := cs.map fun | .int _ n => UInt8.ofNat n.toNat | _ => 0

/-- string(bytes) -/
def b2s (b : Option Addr) (n : Nat) (K : ByteArray → WK) : WK := fun w =>
  (b = none → K .empty w) ∧ ∀ a, b = some a → ∃ cs, cs.length = n ∧ Holds w a cs ∧ (∀ v ∈ cs, ∃ m, v = .int .u8 m) ∧ K ⟨⟨bytesOf cs⟩⟩ w

/-- []byte(string) -/
def s2b (s : ByteArray) (K : Nat → Nat → WK) : WK := fun w =>
  ∀ c t, s.size ≤ c → K w.heap.size c ((w.drew.alloc (.cells ((strCells s).toArray ++ Array.replicate (c - s.size) (.int .u8 0)) t)).freeze ⟨w.heap.size, c, none⟩ 1)

def mkSl (bytes : Nat) (zero : List Value) (len cap : Int) (K : Option Addr → Nat → Nat → WK) : WK := fun w =>
  (0 ≤ len ∧ len ≤ cap ∧ cap ≤ 9223372036854775807 ∧ cap * bytes ≤ 281474976710656) ∧
  ∀ t, K (some ⟨w.heap.size, 0, none⟩) len.toNat cap.toNat (w.alloc (.cells (Builtin.zeroCells ⟨zero⟩ cap.toNat) t))

end Go.Den
