/- What a disk is (layer 4), in plain Lean. -/
import Derived.Test.YtidhimamegfdaaaDoorOwn
namespace Go.Plat
set_option linter.unusedSimpArgs false
set_option linter.unusedVariables false
open Go.Den

def zeros (n : Nat) : ByteArray := ⟨(List.replicate n 0).toArray⟩
theorem zeros_size (n : Nat) : (zeros n).size = n := by simp [zeros, ByteArray.size]

structure Disk where
  safe : List ByteArray
  later : List (Int × ByteArray)
  ops : Int
  arm : Int

namespace Disk
def new (n : Int) : Disk := ⟨List.replicate (min2 (max2 n 0) 4096).toNat (zeros 128), [], 0, 0⟩

def is (D : Disk) (i : Int) : Prop := 0 ≤ i ∧ i < D.safe.length
instance (D : Disk) (i : Int) : Decidable (D.is i) := by unfold is; infer_instance

/-- An operation is counted, and perhaps it fails. -/
def tick (D : Disk) : Disk := { D with ops := IntKind.i64.wrap (D.ops + 1), arm := if D.arm = 0 then 0 else IntKind.i64.wrap (D.arm - 1) }
def fails (D : Disk) : Bool := !(D.arm == 0) && (IntKind.i64.wrap (D.arm - 1) == 0)

/-- The last one of the writes into a sector. -/
def last (l : List (Int × ByteArray)) (i : Int) : Option ByteArray := (l.reverse.find? fun p => p.1 == i).map (·.2)

def now (D : Disk) (i : Int) : ByteArray := (last D.later i).getD (D.safe.getD i.toNat .empty)

def read (D : Disk) (i : Int) : ByteArray × Int := if D.is i then (D.now i, 0) else (.empty, 1)

def pad (s : ByteArray) : ByteArray := s ++ zeros (128 - s.size)

def write (D : Disk) (i : Int) (s : ByteArray) : Disk × Int :=
  if ¬ D.is i ∨ 128 < s.size then (D, 1) else if D.fails then (D.tick, 8) else ({ D.tick with later := D.later ++ [(i, pad s)] }, 0)

def put (safe : List ByteArray) (p : Int × ByteArray) : List ByteArray := safe.set p.1.toNat p.2

def sync (D : Disk) : Disk × Int := if D.fails then (D.tick, 8) else ({ D.tick with safe := D.later.foldl put D.safe, later := [] }, 0)

/-- Does the k-th write persist? -/
def bit (mask : Int) (k : Int) : Bool := isum .u64 .and (shr .u64 mask (min2 k 63)) 1 == 1

def crashAt (mask torn c : Int) (safe : List ByteArray) (k : Nat) (p : Int × ByteArray) : List ByteArray :=
  if (k : Int) = torn then safe.set p.1.toNat (p.2.extract 0 c.toNat ++ (safe.getD p.1.toNat .empty).extract c.toNat (safe.getD p.1.toNat .empty).size)
  else if bit mask k then safe.set p.1.toNat p.2 else safe

def crashFrom (mask torn c : Int) : Nat → List (Int × ByteArray) → List ByteArray → List ByteArray
  | _, [], safe => safe
  | k, p :: r, safe => crashFrom mask torn c (k + 1) r (crashAt mask torn c safe k p)

def crash (D : Disk) (mask torn cut : Int) : Disk :=
  { D with safe := crashFrom mask torn (min2 (max2 cut 0) 128) 0 D.later D.safe, later := [], arm := 0 }

def armed (D : Disk) (n : Int) : Disk := { D with arm := max2 n 0 }

/-- All sectors are whole, all writes are of sectors that there are. -/
structure Ok (D : Disk) : Prop where
  safe : ∀ s ∈ D.safe, s.size = 128
  later : ∀ p ∈ D.later, p.2.size = 128 ∧ 0 ≤ p.1 ∧ p.1 < D.safe.length
  few : D.safe.length ≤ 4096
  less : D.later.length < 1099511627776
end Disk
end Go.Plat
