/- What the functions of the second seat do, as transformers. -/
import Derived.Test.YtidhimamegfdaaaDoorTransM
import Derived.Test.YtidhimamegfdaaaDoorExtD
namespace Go.Prog
set_option linter.unusedSimpArgs false
open Go.Den
set_option linter.unusedVariables false

def castag_Holds (s1 : ByteArray) (K : VK) : WK :=
tick (
br (decide ((IntKind.i64.wrap ((s1.size : Int) - 4)) ≥ 0)) (
slStr s1 none (some (IntKind.i64.wrap ((s1.size : Int) - 4))) (fun s2 =>
slStr s1 (some (IntKind.i64.wrap ((s1.size : Int) - 4))) none (fun s3 =>
castag_Sum 0 s2 (xI .u32 fun n1 =>
castag_Bytes n1 (xS fun s4 =>
K (.bool (strEq s4 s3))))))) (
K (.bool false)))

def castag_Holds.u : WP := fun args K => match args with | [.string s1] => castag_Holds s1 K | _ => no

def strings_trimLeftByte (s1 : ByteArray) (n1 : Int) (K : VK) : WK :=
(fun w1 => ∃ (I1 : List Value → World → Prop) (μ1 : List Value → World → Nat), I1 [.string s1, .string .empty] w1 ∧
∀ (s2 : ByteArray) (s3 : ByteArray) (w2 : World), I1 [.string s2, .string s3] w2 → (
br (decide ((s2.size : Int) > 0)) (
ixStr s2 0 (fun c1 =>
br ((c1.toNat : Int) == n1) (
slStr s2 (some 1) none (fun s4 =>
(fun w3 => I1 [.string s4, .string s3] w3 ∧ μ1 [.string s4, .string s3] w3 < μ1 [.string s2, .string s3] w2))) (
K (.string s2)))) (
K (.string s2))) w2)

def strings_trimLeftByte.u : WP := fun args K => match args with | [.string s1, .int .u8 n1] => strings_trimLeftByte s1 n1 K | _ => no

def strings_trimRightByte (s1 : ByteArray) (n1 : Int) (K : VK) : WK :=
(fun w1 => ∃ (I1 : List Value → World → Prop) (μ1 : List Value → World → Nat), I1 [.string s1, .string .empty] w1 ∧
∀ (s2 : ByteArray) (s3 : ByteArray) (w2 : World), I1 [.string s2, .string s3] w2 → (
br (decide ((s2.size : Int) > 0)) (
ixStr s2 (IntKind.i64.wrap ((s2.size : Int) - 1)) (fun c1 =>
br ((c1.toNat : Int) == n1) (
slStr s2 none (some (IntKind.i64.wrap ((s2.size : Int) - 1))) (fun s4 =>
(fun w3 => I1 [.string s4, .string s3] w3 ∧ μ1 [.string s4, .string s3] w3 < μ1 [.string s2, .string s3] w2))) (
K (.string s2)))) (
K (.string s2))) w2)

def strings_trimRightByte.u : WP := fun args K => match args with | [.string s1, .int .u8 n1] => strings_trimRightByte s1 n1 K | _ => no

def strings_Trim.j2 (K : VK)  : WK :=
no

def strings_Trim.j3 (K : VK) (s2 : ByteArray) (s1 : ByteArray) (b2 : Bool) : WK :=
br b2 (
tick (
ixStr s2 0 (fun c1 =>
ixStr s2 0 (fun c2 =>
strings_trimRightByte s1 (c1.toNat : Int) (xS fun s3 =>
strings_trimLeftByte s3 (c2.toNat : Int) (xS fun s4 =>
K (.string s4))))))) (
strings_Trim.j2 K)

def strings_Trim.j1 (K : VK) (s1 : ByteArray) (s2 : ByteArray) (b1 : Bool) : WK :=
br b1 (
K (.string s1)) (
br ((s2.size : Int) == 1) (
ixStr s2 0 (fun c3 =>
strings_Trim.j3 K s2 s1 (decide ((c3.toNat : Int) < 128)))) (
strings_Trim.j3 K s2 s1 false))

def strings_Trim (s1 : ByteArray) (s2 : ByteArray) (K : VK) : WK :=
br (strEq s1 (⟨#[]⟩ : ByteArray)) (
strings_Trim.j1 K s1 s2 true) (
strings_Trim.j1 K s1 s2 (strEq s2 (⟨#[]⟩ : ByteArray)))

def strings_Trim.u : WP := fun args K => match args with | [.string s1, .string s2] => strings_Trim s1 s2 K | _ => no

def stamp_Read.j1 (K : VK) (r1 : Nat) (s1 : ByteArray) (b1 : Bool) : WK :=
br b1 (
chk True (
chk (3 = 3) (stN (⟨r1, 0, none⟩ : Addr) [.int .i64 0, .int .i64 0, .string .empty] (
ldN (⟨r1, 0, none⟩ : Addr) 3 (fun cs1 =>
K (.tuple ⟨[.agg ⟨cs1⟩, .bool false]⟩)))))) (
tape_Read s1 (xP fun p1 =>
tape_Reader_Int p1 8 (xI .i64 fun n1 =>
tape_Reader_Int p1 2 (xI .i64 fun n2 =>
chk (1 = 1 ∧ (1 = 1 ∧ True)) (
mk [.int .i64 0, .int .i64 0, .string .empty] (fun r2 =>
chk (3 = 3) (stN (⟨r2, 0, none⟩ : Addr) [.int .i64 n1, .int .i64 n2, .string .empty] (
tape_Reader_Int p1 2 (xI .i64 fun n3 =>
br (decide (n3 > 104)) (
chk True (
chk (3 = 3) (stN (⟨r1, 0, none⟩ : Addr) [.int .i64 0, .int .i64 0, .string .empty] (
ldN (⟨r1, 0, none⟩ : Addr) 3 (fun cs2 =>
K (.tuple ⟨[.agg ⟨cs2⟩, .bool false]⟩)))))) (
tape_Reader_Raw p1 n3 (xS fun s2 =>
st ((⟨r2, 0, none⟩ : Addr).add 2) (.string s2) (
tape_Reader_Raw p1 (IntKind.i64.wrap (104 - n3)) (xS fun s3 =>
tape_Reader_Raw p1 4 (xS fun s4 =>
tick (
ld ((⟨r2, 0, none⟩ : Addr).add 0) (xI .i64 fun n4 =>
tape_Reader_Int p1 8 (xI .i64 fun n5 =>
kp ((⟨r2, 0, none⟩ : Addr).add 0) [.int .i64 n4] (
br (n5 != n4) (
chk True (
chk (3 = 3) (stN (⟨r1, 0, none⟩ : Addr) [.int .i64 0, .int .i64 0, .string .empty] (
ldN (⟨r1, 0, none⟩ : Addr) 3 (fun cs3 =>
K (.tuple ⟨[.agg ⟨cs3⟩, .bool false]⟩)))))) (
strings_Trim s3 (⟨#[0]⟩ : ByteArray) (xS fun s5 =>
kp ((⟨r2, 0, none⟩ : Addr).add 0) [.int .i64 n4] (
br (!(strEq s5 (⟨#[]⟩ : ByteArray))) (
chk True (
chk (3 = 3) (stN (⟨r1, 0, none⟩ : Addr) [.int .i64 0, .int .i64 0, .string .empty] (
ldN (⟨r1, 0, none⟩ : Addr) 3 (fun cs4 =>
K (.tuple ⟨[.agg ⟨cs4⟩, .bool false]⟩)))))) (
ldN (⟨r2, 0, none⟩ : Addr) 3 (fun cs5 =>
stamp_good cs5 (xB fun b2 =>
kp ((⟨r2, 0, none⟩ : Addr).add 0) [.int .i64 n4] (
br (!b2) (
chk True (
chk (3 = 3) (stN (⟨r1, 0, none⟩ : Addr) [.int .i64 0, .int .i64 0, .string .empty] (
ldN (⟨r1, 0, none⟩ : Addr) 3 (fun cs6 =>
K (.tuple ⟨[.agg ⟨cs6⟩, .bool false]⟩)))))) (
ldN (⟨r2, 0, none⟩ : Addr) 3 (fun cs7 =>
chk (cs7.length = 3) (stN (⟨r1, 0, none⟩ : Addr) cs7 (
ldN (⟨r1, 0, none⟩ : Addr) 3 (fun cs8 =>
K (.tuple ⟨[.agg ⟨cs8⟩, .bool true]⟩)))))))))))))))))))))))))))))))

def stamp_Read (s1 : ByteArray) (K : VK) : WK :=
mk [.int .i64 0, .int .i64 0, .string .empty] (fun r1 =>
br ((s1.size : Int) != 128) (
stamp_Read.j1 K r1 s1 true) (
slStr s1 none (some 120) (fun s6 =>
castag_Holds s6 (xB fun b3 =>
stamp_Read.j1 K r1 s1 (!b3)))))

def stamp_Read.u : WP := fun args K => match args with | [.string s1] => stamp_Read s1 K | _ => no

def stamp_Take.j1 (K : VK) (n4 : Int) (p1 : Option Addr) (n1 : Int) (n3 : Int) (b1 : Bool) : WK :=
br b1 (
K (.tuple ⟨[.string .empty, .bool false]⟩)) (
mkT tyB [.pointer none, .slice none 0 0] (fun r1 =>
stamp_Count n4 (xI .i64 fun n5 =>
(fun w1 => ∃ (I1 : List Value → World → Prop) (μ1 : List Value → World → Nat), I1 [.string .empty, .bool false, .pointer (some (⟨r1, 0, none⟩ : Addr)), .int .i64 n5, .int .i64 0] w1 ∧
∀ (s1 : ByteArray) (b2 : Bool) (a1 : Addr) (n6 : Int) (n7 : Int) (w2 : World), I1 [.string s1, .bool b2, .pointer (some a1), .int .i64 n6, .int .i64 n7] w2 → (
br (decide (n7 < n6)) (
platter_Disk_Read p1 (IntKind.i64.wrap (n1 + n7)) (x2 fun v1 v2 => (xS fun s2 =>
(xI .i64 fun n8 =>
stamp_Read s2 (x2 fun v3 v4 => (xA 3 fun cs1 =>
(xB fun b3 =>
mk [.int .i64 0, .int .i64 0, .string .empty] (fun r2 =>
chk (cs1.length = 3) (stN (⟨r2, 0, none⟩ : Addr) cs1 (
br (!b3) (
K (.tuple ⟨[.string .empty, .bool false]⟩)) (
ld ((⟨r2, 0, none⟩ : Addr).add 0) (xI .i64 fun n9 =>
br (n9 != n3) (
K (.tuple ⟨[.string .empty, .bool false]⟩)) (
ld ((⟨r2, 0, none⟩ : Addr).add 1) (xI .i64 fun n10 =>
br (n10 != n7) (
K (.tuple ⟨[.string .empty, .bool false]⟩)) (
ld ((⟨r2, 0, none⟩ : Addr).add 2) (xS fun s3 =>
br ((s3.size : Int) != (min2 (IntKind.i64.wrap (n4 - (IntKind.i64.wrap (n7 * 104)))) 104)) (
K (.tuple ⟨[.string .empty, .bool false]⟩)) (
ld ((⟨r2, 0, none⟩ : Addr).add 2) (xS fun s4 =>
strings_Builder_WriteString (some a1) s4 (x2 fun v5 v6 => (xI .i64 fun n11 =>
(fun v7 =>
(fun w3 => I1 [.string s1, .bool b2, .pointer (some a1), .int .i64 n6, .int .i64 (IntKind.i64.wrap (n7 + 1))] w3 ∧ μ1 [.string s1, .bool b2, .pointer (some a1), .int .i64 n6, .int .i64 (IntKind.i64.wrap (n7 + 1))] w3 < μ1 [.string s1, .bool b2, .pointer (some a1), .int .i64 n6, .int .i64 n7] w2)) v6) v5))))))))))))) v4) v3)) v2) v1)) (
strings_Builder_String (some a1) (xS fun s5 =>
K (.tuple ⟨[.string s5, .bool true]⟩)))) w2))))

def stamp_Take (p1 : Option Addr) (n1 : Int) (n2 : Int) (n3 : Int) (n4 : Int) (K : VK) : WK :=
br (decide (n1 < 0)) (
stamp_Take.j1 K n4 p1 n1 n3 true) (
platter_Disk_Sectors p1 (xI .i64 fun n12 =>
br (decide (n2 > n12)) (
stamp_Take.j1 K n4 p1 n1 n3 true) (
br (decide (n1 > n2)) (
stamp_Take.j1 K n4 p1 n1 n3 true) (
br (decide (n4 < 0)) (
stamp_Take.j1 K n4 p1 n1 n3 true) (
br (decide (n4 > 425984)) (
stamp_Take.j1 K n4 p1 n1 n3 true) (
stamp_Count n4 (xI .i64 fun n13 =>
stamp_Take.j1 K n4 p1 n1 n3 (decide (n13 > (IntKind.i64.wrap (n2 - n1)))))))))))

def stamp_Take.u : WP := fun args K => match args with | [.pointer p1, .int .i64 n1, .int .i64 n2, .int .i64 n3, .int .i64 n4] => stamp_Take p1 n1 n2 n3 n4 K | _ => no

def bondstorelaw05_StampLays.j2 (K : VK) (b3 : Bool) : WK :=
K (.bool b3)

def bondstorelaw05_StampLays.j3 (K : VK) (b4 : Bool) : WK :=
K (.bool b4)

def bondstorelaw05_StampLays.j5 (K : VK) (b7 : Bool) (s1 : ByteArray) (n5 : Int) (s3 : ByteArray) (b8 : Bool) : WK :=
br b8 (
br b7 (
slStr s1 none (some n5) (fun s4 =>
K (.bool (strEq s3 s4)))) (
K (.bool false))) (
br (!b7) (
K (.bool (strEq s3 (⟨#[]⟩ : ByteArray)))) (
K (.bool false)))

def bondstorelaw05_StampLays.j4 (K : VK) (p1 : Option Addr) (n1 : Int) (n2 : Int) (n4 : Int) (n5 : Int) (n3 : Int) (s1 : ByteArray) (b6 : Bool) : WK :=
br b6 (
K (.bool false)) (
stamp_Take p1 n1 n2 n4 n5 (x2 fun v3 v4 => (xS fun s3 =>
(xB fun b7 =>
br (n4 == n3) (
br (n5 == (s1.size : Int)) (
bondstorelaw05_StampLays.j5 K b7 s1 n5 s3 true) (
br (decide (n5 > 0)) (
br (decide (n5 < (s1.size : Int))) (
chk ((104 : Int) ≠ 0) (
bondstorelaw05_StampLays.j5 K b7 s1 n5 s3 ((n5.tmod (104 : Int)) == 0))) (
bondstorelaw05_StampLays.j5 K b7 s1 n5 s3 false)) (
bondstorelaw05_StampLays.j5 K b7 s1 n5 s3 false))) (
bondstorelaw05_StampLays.j5 K b7 s1 n5 s3 false)) v4) v3))

def bondstorelaw05_StampLays.j1 (K : VK) (s1 : ByteArray) (n6 : Int) (p1 : Option Addr) (n2 : Int) (n1 : Int) (n3 : Int) (n4 : Int) (n5 : Int) (b2 : Bool) : WK :=
bondstoreref05_Count (s1.size : Int) (xI .i64 fun n7 =>
br (!b2) (
br (n6 == 1) (
platter_Disk_Later p1 (xI .i64 fun n8 =>
bondstorelaw05_StampLays.j2 K (n8 == 0))) (
bondstorelaw05_StampLays.j2 K false)) (
br (decide (n7 > (IntKind.i64.wrap (n2 - n1)))) (
br (n6 == 3) (
platter_Disk_Later p1 (xI .i64 fun n9 =>
bondstorelaw05_StampLays.j3 K (n9 == 0))) (
bondstorelaw05_StampLays.j3 K false)) (
stamp_Take p1 n1 n2 n3 (s1.size : Int) (x2 fun v1 v2 => (xS fun s2 =>
(xB fun b5 =>
br (n6 != 0) (
bondstorelaw05_StampLays.j4 K p1 n1 n2 n4 n5 n3 s1 true) (
platter_Disk_Later p1 (xI .i64 fun n10 =>
br (n10 != n7) (
bondstorelaw05_StampLays.j4 K p1 n1 n2 n4 n5 n3 s1 true) (
br (!b5) (
bondstorelaw05_StampLays.j4 K p1 n1 n2 n4 n5 n3 s1 true) (
bondstorelaw05_StampLays.j4 K p1 n1 n2 n4 n5 n3 s1 (!(strEq s2 s1))))))) v2) v1))))

def bondstorelaw05_StampLays (n1 : Int) (n2 : Int) (n3 : Int) (s1 : ByteArray) (n4 : Int) (n5 : Int) (K : VK) : WK :=
bondstorelaw05_alive (xB fun b1 =>
br (!b1) (
K (.bool false)) (
br (decide ((s1.size : Int) > 2000)) (
K (.bool true)) (
platter_New 12 (xP fun p1 =>
stamp_Lay p1 n1 n2 n3 s1 (xI .i64 fun n6 =>
br (decide (n3 ≥ 1)) (
br (decide (n3 ≤ 1152921504606846976)) (
br (decide (n1 ≥ 0)) (
br (decide (n2 ≤ 12)) (
bondstorelaw05_StampLays.j1 K s1 n6 p1 n2 n1 n3 n4 n5 (decide (n1 ≤ n2))) (
bondstorelaw05_StampLays.j1 K s1 n6 p1 n2 n1 n3 n4 n5 false)) (
bondstorelaw05_StampLays.j1 K s1 n6 p1 n2 n1 n3 n4 n5 false)) (
bondstorelaw05_StampLays.j1 K s1 n6 p1 n2 n1 n3 n4 n5 false)) (
bondstorelaw05_StampLays.j1 K s1 n6 p1 n2 n1 n3 n4 n5 false))))))

def bondstorelaw05_StampLays.u : WP := fun args K => match args with | [.int .i64 n1, .int .i64 n2, .int .i64 n3, .string s1, .int .i64 n4, .int .i64 n5] => bondstorelaw05_StampLays n1 n2 n3 s1 n4 n5 K | _ => no

def bondstoreref03_Int (n1 : Int) (n2 : Int) (K : VK) : WK :=
(fun w1 => ∃ (I1 : List Value → World → Prop) (μ1 : List Value → World → Nat), I1 [.string .empty, .int .i64 (min2 (max2 n1 1) 8), .int .u64 (IntKind.u64.wrap n2), .string .empty, .int .i64 0] w1 ∧
∀ (s1 : ByteArray) (n3 : Int) (n4 : Int) (s2 : ByteArray) (n5 : Int) (w2 : World), I1 [.string s1, .int .i64 n3, .int .u64 n4, .string s2, .int .i64 n5] w2 → (
br (decide (n5 < n3)) (
chk ((256 : Int) ≠ 0) (
chk (1 = 1 ∧ True) (mk [.int .u8 (IntKind.u8.wrap (n4.tmod (256 : Int)))] (fun r1 =>
b2s (some ⟨r1, 0, none⟩) 1 (fun s3 =>
chk (((s2.size + s3.size : Nat) : Int) ≤ 9223372036854775807) (
chk ((256 : Int) ≠ 0) (
(fun w3 => I1 [.string s1, .int .i64 n3, .int .u64 (IntKind.u64.wrap (n4.tdiv (256 : Int))), .string (s2 ++ s3), .int .i64 (IntKind.i64.wrap (n5 + 1))] w3 ∧ μ1 [.string s1, .int .i64 n3, .int .u64 (IntKind.u64.wrap (n4.tdiv (256 : Int))), .string (s2 ++ s3), .int .i64 (IntKind.i64.wrap (n5 + 1))] w3 < μ1 [.string s1, .int .i64 n3, .int .u64 n4, .string s2, .int .i64 n5] w2)))))))) (
K (.string s2))) w2)

def bondstoreref03_Int.u : WP := fun args K => match args with | [.int .i64 n1, .int .i64 n2] => bondstoreref03_Int n1 n2 K | _ => no

def bondstoreref02_Bytes (n1 : Int) (K : VK) : WK :=
chk ((256 : Int) ≠ 0) (
chk ((256 : Int) ≠ 0) (
chk ((256 : Int) ≠ 0) (
chk ((65536 : Int) ≠ 0) (
chk ((256 : Int) ≠ 0) (
chk ((16777216 : Int) ≠ 0) (
chk (1 = 1 ∧ (1 = 1 ∧ (1 = 1 ∧ (1 = 1 ∧ True)))) (mk [.int .u8 (IntKind.u8.wrap (n1.tmod (256 : Int))), .int .u8 (IntKind.u8.wrap ((IntKind.u32.wrap (n1.tdiv (256 : Int))).tmod (256 : Int))), .int .u8 (IntKind.u8.wrap ((IntKind.u32.wrap (n1.tdiv (65536 : Int))).tmod (256 : Int))), .int .u8 (IntKind.u8.wrap (IntKind.u32.wrap (n1.tdiv (16777216 : Int))))] (fun r1 =>
b2s (some ⟨r1, 0, none⟩) 4 (fun s1 =>
K (.string s1))))))))))

def bondstoreref02_Bytes.u : WP := fun args K => match args with | [.int .u32 n1] => bondstoreref02_Bytes n1 K | _ => no

def bondstoreref02_Sum (n1 : Int) (s1 : ByteArray) (K : VK) : WK :=
(fun w1 => ∃ (I1 : List Value → World → Prop) (μ1 : List Value → World → Nat), I1 [.int .u32 0, .int .u32 (IntKind.u32.wrap (4294967295 - n1)), .int .i64 0] w1 ∧
∀ (n2 : Int) (n3 : Int) (n4 : Int) (w2 : World), I1 [.int .u32 n2, .int .u32 n3, .int .i64 n4] w2 → (
br (decide (n4 < (s1.size : Int))) (
(fun w3 => ∃ (I2 : List Value → World → Prop) (μ2 : List Value → World → Nat), I2 [.int .u32 n2, .int .u32 n3, .int .i64 n4, .int .i64 0, .int .i64 n4, .string s1, .int .i64 (s1.size : Int), .bool (decide (n4 < (s1.size : Int)))] w3 ∧
∀ (n5 : Int) (n6 : Int) (n7 : Int) (n8 : Int) (n9 : Int) (s2 : ByteArray) (n10 : Int) (b1 : Bool) (w4 : World), I2 [.int .u32 n5, .int .u32 n6, .int .i64 n7, .int .i64 n8, .int .i64 n9, .string s2, .int .i64 n10, .bool b1] w4 → (
br (decide (n8 < 8)) (
ixStr s1 n7 (fun c1 =>
chk ((0 : Int) ≤ (IntKind.u64.wrap n8)) (
chk ((2 : Int) ≠ 0) (
chk ((2 : Int) ≠ 0) (
chk ((2 : Int) ≠ 0) (
br ((n6.tmod (2 : Int)) != ((shr .u32 (IntKind.u32.wrap (c1.toNat : Int)) (IntKind.u64.wrap n8)).tmod (2 : Int))) (
(fun w5 => I2 [.int .u32 n5, .int .u32 (isum .u32 .xor (IntKind.u32.wrap (n6.tdiv (2 : Int))) 2197175160), .int .i64 n7, .int .i64 (IntKind.i64.wrap (n8 + 1)), .int .i64 n9, .string s2, .int .i64 n10, .bool b1] w5 ∧ μ2 [.int .u32 n5, .int .u32 (isum .u32 .xor (IntKind.u32.wrap (n6.tdiv (2 : Int))) 2197175160), .int .i64 n7, .int .i64 (IntKind.i64.wrap (n8 + 1)), .int .i64 n9, .string s2, .int .i64 n10, .bool b1] w5 < μ2 [.int .u32 n5, .int .u32 n6, .int .i64 n7, .int .i64 n8, .int .i64 n9, .string s2, .int .i64 n10, .bool b1] w4)) (
(fun w6 => I2 [.int .u32 n5, .int .u32 (IntKind.u32.wrap (n6.tdiv (2 : Int))), .int .i64 n7, .int .i64 (IntKind.i64.wrap (n8 + 1)), .int .i64 n9, .string s2, .int .i64 n10, .bool b1] w6 ∧ μ2 [.int .u32 n5, .int .u32 (IntKind.u32.wrap (n6.tdiv (2 : Int))), .int .i64 n7, .int .i64 (IntKind.i64.wrap (n8 + 1)), .int .i64 n9, .string s2, .int .i64 n10, .bool b1] w6 < μ2 [.int .u32 n5, .int .u32 n6, .int .i64 n7, .int .i64 n8, .int .i64 n9, .string s2, .int .i64 n10, .bool b1] w4)))))))) (
(fun w7 => I1 [.int .u32 n5, .int .u32 n6, .int .i64 (IntKind.i64.wrap (n7 + 1))] w7 ∧ μ1 [.int .u32 n5, .int .u32 n6, .int .i64 (IntKind.i64.wrap (n7 + 1))] w7 < μ1 [.int .u32 n2, .int .u32 n3, .int .i64 n4] w2))) w4)) (
K (.int .u32 (IntKind.u32.wrap (4294967295 - n3))))) w2)

def bondstoreref02_Sum.u : WP := fun args K => match args with | [.int .u32 n1, .string s1] => bondstoreref02_Sum n1 s1 K | _ => no

def bondstoreref05_Bytes (n1 : Int) (n2 : Int) (s1 : ByteArray) (K : VK) : WK :=
bondstoreref03_Int 8 n1 (xS fun s2 =>
bondstoreref03_Int 2 n2 (xS fun s3 =>
chk (((s2.size + s3.size : Nat) : Int) ≤ 9223372036854775807) (
bondstoreref03_Int 2 (s1.size : Int) (xS fun s4 =>
chk ((((s2 ++ s3).size + s4.size : Nat) : Int) ≤ 9223372036854775807) (
chk (((((s2 ++ s3) ++ s4).size + s1.size : Nat) : Int) ≤ 9223372036854775807) (
(fun w1 => ∃ (I1 : List Value → World → Prop) (μ1 : List Value → World → Nat), I1 [.string .empty, .string (((s2 ++ s3) ++ s4) ++ s1)] w1 ∧
∀ (s5 : ByteArray) (s6 : ByteArray) (w2 : World), I1 [.string s5, .string s6] w2 → (
br (decide ((s6.size : Int) < 116)) (
chk (((s6.size + (⟨#[0]⟩ : ByteArray).size : Nat) : Int) ≤ 9223372036854775807) (
(fun w3 => I1 [.string s5, .string (s6 ++ (⟨#[0]⟩ : ByteArray))] w3 ∧ μ1 [.string s5, .string (s6 ++ (⟨#[0]⟩ : ByteArray))] w3 < μ1 [.string s5, .string s6] w2))) (
bondstoreref02_Sum 0 s6 (xI .u32 fun n3 =>
bondstoreref02_Bytes n3 (xS fun s7 =>
chk (((s6.size + s7.size : Nat) : Int) ≤ 9223372036854775807) (
bondstoreref03_Int 8 n1 (xS fun s8 =>
chk ((((s6 ++ s7).size + s8.size : Nat) : Int) ≤ 9223372036854775807) (
K (.string ((s6 ++ s7) ++ s8))))))))) w2)))))))

def bondstoreref05_Bytes.u : WP := fun args K => match args with | [.int .i64 n1, .int .i64 n2, .string s1] => bondstoreref05_Bytes n1 n2 s1 K | _ => no

def bondstoreref05_Part (s1 : ByteArray) (n1 : Int) (K : VK) : WK :=
slStr s1 (some (min2 (IntKind.i64.wrap (104 * n1)) (s1.size : Int))) (some (min2 (IntKind.i64.wrap ((IntKind.i64.wrap (104 * n1)) + 104)) (s1.size : Int))) (fun s2 =>
K (.string s2))

def bondstoreref05_Part.u : WP := fun args K => match args with | [.string s1, .int .i64 n1] => bondstoreref05_Part s1 n1 K | _ => no

def bondstorelaw05_StampCrash (sb1 : Option Addr) (sn1 : Nat) (sc1 : Nat) (s1 : ByteArray) (n1 : Int) (n2 : Int) (n3 : Int) (K : VK) : WK :=
bondstorelaw05_alive (xB fun b1 =>
br (!b1) (
K (.bool false)) (
br (decide ((s1.size : Int) > 1000)) (
K (.bool true)) (
bondstorelaw05_disk sb1 sn1 sc1 (xP fun p1 =>
stamp_Greatest p1 (xI .i64 fun n4 =>
br (decide ((IntKind.i64.wrap (n4 + 1)) > 1152921504606846976)) (
K (.bool true)) (
stamp_Lay p1 0 12 (IntKind.i64.wrap (n4 + 1)) s1 (xI .i64 fun n5 =>
br (n5 != 0) (
K (.bool false)) (
bondstoreref05_Count (s1.size : Int) (xI .i64 fun n6 =>
platter_Disk_Crash p1 n1 n2 n3 (x0
(stamp_Take p1 0 12 (IntKind.i64.wrap (n4 + 1)) (s1.size : Int) (x2 fun v1 v2 => (xS fun s2 =>
(xB fun b2 =>
(fun w1 => ∃ (I1 : List Value → World → Prop) (μ1 : List Value → World → Nat), I1 [.bool false, .pointer p1, .int .i64 (IntKind.i64.wrap (n4 + 1)), .int .i64 n6, .string s2, .bool b2, .bool true, .int .i64 0] w1 ∧
∀ (b3 : Bool) (p2 : Option Addr) (n7 : Int) (n8 : Int) (s3 : ByteArray) (b4 : Bool) (b5 : Bool) (n9 : Int) (w2 : World), I1 [.bool b3, .pointer p2, .int .i64 n7, .int .i64 n8, .string s3, .bool b4, .bool b5, .int .i64 n9] w2 → (
br (decide (n9 < n8)) (
platter_Disk_Read p2 n9 (x2 fun v3 v4 => (xS fun s4 =>
(xI .i64 fun n10 =>
br b5 (
bondstoreref05_Part s1 n9 (xS fun s5 =>
bondstoreref05_Bytes n7 n9 s5 (xS fun s6 =>
(fun w3 => I1 [.bool b3, .pointer p2, .int .i64 n7, .int .i64 n8, .string s3, .bool b4, .bool (strEq s4 s6), .int .i64 (IntKind.i64.wrap (n9 + 1))] w3 ∧ μ1 [.bool b3, .pointer p2, .int .i64 n7, .int .i64 n8, .string s3, .bool b4, .bool (strEq s4 s6), .int .i64 (IntKind.i64.wrap (n9 + 1))] w3 < μ1 [.bool b3, .pointer p2, .int .i64 n7, .int .i64 n8, .string s3, .bool b4, .bool b5, .int .i64 n9] w2)))) (
(fun w4 => I1 [.bool b3, .pointer p2, .int .i64 n7, .int .i64 n8, .string s3, .bool b4, .bool false, .int .i64 (IntKind.i64.wrap (n9 + 1))] w4 ∧ μ1 [.bool b3, .pointer p2, .int .i64 n7, .int .i64 n8, .string s3, .bool b4, .bool false, .int .i64 (IntKind.i64.wrap (n9 + 1))] w4 < μ1 [.bool b3, .pointer p2, .int .i64 n7, .int .i64 n8, .string s3, .bool b4, .bool b5, .int .i64 n9] w2))) v4) v3)) (
br (b4 == b5) (
br b4 (
br (strEq s3 s1) (
K (.bool true)) (
br (!b4) (
K (.bool (strEq s3 (⟨#[]⟩ : ByteArray)))) (
K (.bool false)))) (
br (!b4) (
K (.bool (strEq s3 (⟨#[]⟩ : ByteArray)))) (
K (.bool false)))) (
K (.bool false)))) w2)) v2) v1))))))))))))

def bondstorelaw05_StampCrash.u : WP := fun args K => match args with | [.slice sb1 sn1 sc1, .string s1, .int .u64 n1, .int .i64 n2, .int .i64 n3] => bondstorelaw05_StampCrash sb1 sn1 sc1 s1 n1 n2 n3 K | _ => no

def slot_Of.j1 (K : VK) (r1 : Nat) (n1 : Int) (b1 : Bool) : WK :=
br b1 (
chk True (
chk (5 = 5) (stN (⟨r1, 0, none⟩ : Addr) [.int .i64 0, .int .i64 0, .int .i64 0, .int .i64 0, .int .i64 0] (
ldN (⟨r1, 0, none⟩ : Addr) 5 (fun cs1 =>
K (.tuple ⟨[.agg ⟨cs1⟩, .int .i64 1]⟩)))))) (
chk ((5 : Int) ≠ 0) (
chk (1 = 1 ∧ (1 = 1 ∧ (1 = 1 ∧ (1 = 1 ∧ (1 = 1 ∧ True))))) (
chk (5 = 5) (stN (⟨r1, 0, none⟩ : Addr) [.int .i64 2, .int .i64 (IntKind.i64.wrap (2 + (IntKind.i64.wrap ((IntKind.i64.wrap ((IntKind.i64.wrap (n1 - 2)) * 2)).tdiv (5 : Int))))), .int .i64 (IntKind.i64.wrap ((IntKind.i64.wrap ((IntKind.i64.wrap (n1 - 2)) * 2)).tdiv (5 : Int))), .int .i64 (IntKind.i64.wrap (2 + (IntKind.i64.wrap (2 * (IntKind.i64.wrap ((IntKind.i64.wrap ((IntKind.i64.wrap (n1 - 2)) * 2)).tdiv (5 : Int))))))), .int .i64 n1] (
ldN (⟨r1, 0, none⟩ : Addr) 5 (fun cs2 =>
K (.tuple ⟨[.agg ⟨cs2⟩, .int .i64 0]⟩)))))))

def slot_Of (n1 : Int) (K : VK) : WK :=
mk [.int .i64 0, .int .i64 0, .int .i64 0, .int .i64 0, .int .i64 0] (fun r1 =>
br (decide (n1 < 12)) (
slot_Of.j1 K r1 n1 true) (
slot_Of.j1 K r1 n1 (decide (n1 > 4096))))

def slot_Of.u : WP := fun args K => match args with | [.int .i64 n1] => slot_Of n1 K | _ => no

def slot_Plan_At (cs1 : List Value) (n1 : Int) (K : VK) : WK :=
mk cs1 (fun r1 =>
ld ((⟨r1, 0, none⟩ : Addr).add 0) (xI .i64 fun n2 =>
ld ((⟨r1, 0, none⟩ : Addr).add 1) (xI .i64 fun n3 =>
chk (1 = 1 ∧ (1 = 1 ∧ True)) (
ixArr [.int .i64 n2, .int .i64 n3] 2 (isum .i64 .and n1 1) (xI .i64 fun n4 =>
K (.int .i64 n4))))))

def slot_Plan_At.u : WP := fun args K => match args with | [.agg ⟨cs1⟩, .int .i64 n1] => slot_Plan_At cs1 n1 K | _ => no

def slot_Plan_Put (cs1 : List Value) (p1 : Option Addr) (n1 : Int) (n2 : Int) (s1 : ByteArray) (K : VK) : WK :=
mk cs1 (fun r1 =>
br (p1.isNone) (
K (.int .i64 2)) (
tick (
ldN (⟨r1, 0, none⟩ : Addr) 5 (fun cs2 =>
ldN (⟨r1, 0, none⟩ : Addr) 5 (fun cs3 =>
ld ((⟨r1, 0, none⟩ : Addr).add 2) (xI .i64 fun n3 =>
slot_Plan_At cs2 n1 (xI .i64 fun n4 =>
kp ((⟨r1, 0, none⟩ : Addr).add 2) [.int .i64 n3] (
kp (⟨r1, 0, none⟩ : Addr) cs3 (
slot_Plan_At cs3 n1 (xI .i64 fun n5 =>
kp ((⟨r1, 0, none⟩ : Addr).add 2) [.int .i64 n3] (
stamp_Lay p1 n4 (IntKind.i64.wrap (n5 + n3)) n2 s1 (xI .i64 fun n6 =>
kp ((⟨r1, 0, none⟩ : Addr).add 2) [.int .i64 n3] (
br (n6 != 0) (
K (.int .i64 n6)) (
platter_Disk_Sync p1 (xI .i64 fun n7 =>
K (.int .i64 n7))))))))))))))))

def slot_Plan_Put.u : WP := fun args K => match args with | [.agg ⟨cs1⟩, .pointer p1, .int .i64 n1, .int .i64 n2, .string s1] => slot_Plan_Put cs1 p1 n1 n2 s1 K | _ => no

def slot_Plan_Get (cs1 : List Value) (p1 : Option Addr) (n1 : Int) (n2 : Int) (n3 : Int) (K : VK) : WK :=
mk cs1 (fun r1 =>
br (p1.isNone) (
K (.tuple ⟨[.string .empty, .bool false]⟩)) (
tick (
ldN (⟨r1, 0, none⟩ : Addr) 5 (fun cs2 =>
ldN (⟨r1, 0, none⟩ : Addr) 5 (fun cs3 =>
ld ((⟨r1, 0, none⟩ : Addr).add 2) (xI .i64 fun n4 =>
slot_Plan_At cs2 n1 (xI .i64 fun n5 =>
kp ((⟨r1, 0, none⟩ : Addr).add 2) [.int .i64 n4] (
kp (⟨r1, 0, none⟩ : Addr) cs3 (
slot_Plan_At cs3 n1 (xI .i64 fun n6 =>
kp ((⟨r1, 0, none⟩ : Addr).add 2) [.int .i64 n4] (
stamp_Take p1 n5 (IntKind.i64.wrap (n6 + n4)) n2 n3 (x2 fun v1 v2 => (xS fun s1 =>
(xB fun b1 =>
kp ((⟨r1, 0, none⟩ : Addr).add 2) [.int .i64 n4] (
K (.tuple ⟨[.string s1, .bool b1]⟩))) v2) v1))))))))))))

def slot_Plan_Get.u : WP := fun args K => match args with | [.agg ⟨cs1⟩, .pointer p1, .int .i64 n1, .int .i64 n2, .int .i64 n3] => slot_Plan_Get cs1 p1 n1 n2 n3 K | _ => no

def bondstorelaw07_alive  (K : VK) : WK :=
slot_Of 12 (x2 fun v1 v2 => (xA 5 fun cs1 =>
(xI .i64 fun n1 =>
mk [.int .i64 0, .int .i64 0, .int .i64 0, .int .i64 0, .int .i64 0] (fun r1 =>
chk (cs1.length = 5) (stN (⟨r1, 0, none⟩ : Addr) cs1 (
platter_New 12 (xP fun p1 =>
ldN (⟨r1, 0, none⟩ : Addr) 5 (fun cs2 =>
slot_Plan_Put cs2 p1 0 1 (⟨#[97]⟩ : ByteArray) (xI .i64 fun n2 =>
ldN (⟨r1, 0, none⟩ : Addr) 5 (fun cs3 =>
slot_Plan_Get cs3 p1 0 1 1 (x2 fun v3 v4 => (xS fun s1 =>
(xB fun b1 =>
br (n1 == 0) (
ldN (⟨r1, 0, none⟩ : Addr) 5 (fun cs4 =>
chk (1 = 1 ∧ (1 = 1 ∧ (1 = 1 ∧ (1 = 1 ∧ (1 = 1 ∧ True))))) (
eqC [.int .i64 0, .int .i64 0, .int .i64 0, .int .i64 0, .int .i64 0] cs4 [.int .i64 2, .int .i64 6, .int .i64 4, .int .i64 10, .int .i64 12] (fun b2 =>
br b2 (
br (n2 == 0) (
br b1 (
K (.bool (strEq s1 (⟨#[97]⟩ : ByteArray)))) (
K (.bool false))) (
K (.bool false))) (
K (.bool false)))))) (
K (.bool false))) v4) v3))))))))) v2) v1)

def bondstorelaw07_alive.u : WP := fun args K => match args with | [] => bondstorelaw07_alive  K | _ => no

def bondstorelaw07_SlotOver.j2 (K : VK) (r1 : Nat) (p1 : Option Addr) (n2 : Int) (s1 : ByteArray) (s2 : ByteArray) (b3 : Bool) : WK :=
br b3 (
K (.bool true)) (
ldN (⟨r1, 0, none⟩ : Addr) 5 (fun cs2 =>
slot_Plan_Get cs2 p1 n2 1 (s1.size : Int) (x2 fun v3 v4 => (xS fun s3 =>
(xB fun b4 =>
ldN (⟨r1, 0, none⟩ : Addr) 5 (fun cs3 =>
slot_Plan_Get cs3 p1 n2 2 (s2.size : Int) (x2 fun v5 v6 => (xS fun s4 =>
(xB fun b5 =>
ldN (⟨r1, 0, none⟩ : Addr) 5 (fun cs4 =>
slot_Plan_Get cs4 p1 (isum .i64 .xor n2 1) 2 (s2.size : Int) (x2 fun v7 v8 => (xS fun s5 =>
(xB fun b6 =>
br (!b4) (
br b5 (
br (strEq s4 s2) (
K (.bool (!b6))) (
K (.bool false))) (
K (.bool false))) (
K (.bool false))) v8) v7))) v6) v5))) v4) v3)))

def bondstorelaw07_SlotOver.j1 (K : VK) (n1 : Int) (n2 : Int) (s1 : ByteArray) (s2 : ByteArray) (b2 : Bool) : WK :=
br b2 (
K (.bool true)) (
slot_Of n1 (x2 fun v1 v2 => (xA 5 fun cs1 =>
(xI .i64 fun n3 =>
mk [.int .i64 0, .int .i64 0, .int .i64 0, .int .i64 0, .int .i64 0] (fun r1 =>
chk (cs1.length = 5) (stN (⟨r1, 0, none⟩ : Addr) cs1 (
platter_New n1 (xP fun p1 =>
ldN (⟨r1, 0, none⟩ : Addr) 5 (fun cs5 =>
slot_Plan_Put cs5 p1 n2 1 s1 (xI .i64 fun n4 =>
br (n4 != 0) (
bondstorelaw07_SlotOver.j2 K r1 p1 n2 s1 s2 true) (
ldN (⟨r1, 0, none⟩ : Addr) 5 (fun cs6 =>
slot_Plan_Put cs6 p1 n2 2 s2 (xI .i64 fun n5 =>
bondstorelaw07_SlotOver.j2 K r1 p1 n2 s1 s2 (n5 != 0))))))))))) v2) v1))

def bondstorelaw07_SlotOver (n1 : Int) (s1 : ByteArray) (s2 : ByteArray) (n2 : Int) (K : VK) : WK :=
bondstorelaw07_alive (xB fun b1 =>
br (!b1) (
K (.bool false)) (
br (decide (n1 < 12)) (
bondstorelaw07_SlotOver.j1 K n1 n2 s1 s2 true) (
br (decide (n1 > 60)) (
bondstorelaw07_SlotOver.j1 K n1 n2 s1 s2 true) (
bondstorelaw07_SlotOver.j1 K n1 n2 s1 s2 (decide ((IntKind.i64.wrap ((s1.size : Int) + (s2.size : Int))) > 3000))))))

def bondstorelaw07_SlotOver.u : WP := fun args K => match args with | [.int .i64 n1, .string s1, .string s2, .int .i64 n2] => bondstorelaw07_SlotOver n1 s1 s2 n2 K | _ => no

def slot_Plan_Fits (cs1 : List Value) (n1 : Int) (K : VK) : WK :=
mk cs1 (fun r1 =>
tick (
br (decide (n1 ≥ 0)) (
ld ((⟨r1, 0, none⟩ : Addr).add 2) (xI .i64 fun n2 =>
stamp_Count n1 (xI .i64 fun n3 =>
kp ((⟨r1, 0, none⟩ : Addr).add 2) [.int .i64 n2] (
K (.bool (decide (n3 ≤ n2))))))) (
K (.bool false))))

def slot_Plan_Fits.u : WP := fun args K => match args with | [.agg ⟨cs1⟩, .int .i64 n1] => slot_Plan_Fits cs1 n1 K | _ => no

def bondstorelaw07_SlotPuts.j2 (K : VK) (r1 : Nat) (p1 : Option Addr) (n2 : Int) (n3 : Int) (s1 : ByteArray) : WK :=
ld ((⟨r1, 0, none⟩ : Addr).add 3) (xI .i64 fun n9 =>
platter_Disk_Read p1 n9 (x2 fun v7 v8 => (xS fun s5 =>
(xI .i64 fun n10 =>
ldN (⟨r1, 0, none⟩ : Addr) 5 (fun cs6 =>
slot_Plan_Get cs6 p1 n2 (IntKind.i64.wrap (n3 + 1)) (s1.size : Int) (x2 fun v9 v10 => (xS fun s6 =>
(xB fun b5 =>
ldN (⟨r1, 0, none⟩ : Addr) 5 (fun cs7 =>
slot_Plan_Put cs7 none 0 1 (⟨#[]⟩ : ByteArray) (xI .i64 fun n11 =>
ldN (⟨r1, 0, none⟩ : Addr) 5 (fun cs8 =>
slot_Plan_Get cs8 none 0 1 0 (x2 fun v11 v12 => (xS fun s7 =>
(xB fun b6 =>
slStr s5 none (some 7) (fun s8 =>
br (strEq s8 (⟨#[106, 111, 117, 114, 110, 97, 108]⟩ : ByteArray)) (
br (strEq s6 (⟨#[]⟩ : ByteArray)) (
br (!b5) (
br (n11 == 2) (
K (.bool (!b6))) (
K (.bool false))) (
K (.bool false))) (
K (.bool false))) (
K (.bool false)))) v12) v11))))) v10) v9))) v8) v7))

def bondstorelaw07_SlotPuts.j1 (K : VK) (n1 : Int) (n2 : Int) (n3 : Int) (s1 : ByteArray) (s2 : ByteArray) (b2 : Bool) : WK :=
br b2 (
K (.bool true)) (
slot_Of n1 (x2 fun v1 v2 => (xA 5 fun cs1 =>
(xI .i64 fun n4 =>
mk [.int .i64 0, .int .i64 0, .int .i64 0, .int .i64 0, .int .i64 0] (fun r1 =>
chk (cs1.length = 5) (stN (⟨r1, 0, none⟩ : Addr) cs1 (
platter_New n1 (xP fun p1 =>
ld ((⟨r1, 0, none⟩ : Addr).add 3) (xI .i64 fun n5 =>
platter_Disk_Write p1 n5 (⟨#[106, 111, 117, 114, 110, 97, 108]⟩ : ByteArray) (xI .i64 fun n6 =>
tick (
ldN (⟨r1, 0, none⟩ : Addr) 5 (fun cs2 =>
ldN (⟨r1, 0, none⟩ : Addr) 5 (fun cs3 =>
slot_Plan_Put cs2 p1 n2 n3 s1 (xI .i64 fun n7 =>
kp (⟨r1, 0, none⟩ : Addr) cs3 (
slot_Plan_Put cs3 p1 (isum .i64 .xor n2 1) (IntKind.i64.wrap (n3 + 1)) s2 (xI .i64 fun n8 =>
ldN (⟨r1, 0, none⟩ : Addr) 5 (fun cs4 =>
slot_Plan_Get cs4 p1 n2 n3 (s1.size : Int) (x2 fun v3 v4 => (xS fun s3 =>
(xB fun b3 =>
ldN (⟨r1, 0, none⟩ : Addr) 5 (fun cs5 =>
slot_Plan_Get cs5 p1 (isum .i64 .xor n2 1) (IntKind.i64.wrap (n3 + 1)) (s2.size : Int) (x2 fun v5 v6 => (xS fun s4 =>
(xB fun b4 =>
ldN (⟨r1, 0, none⟩ : Addr) 5 (fun cs9 =>
slot_Plan_Fits cs9 (s1.size : Int) (xB fun b7 =>
br (!((n7 == 0) == b7)) (
K (.bool false)) (
ldN (⟨r1, 0, none⟩ : Addr) 5 (fun cs10 =>
slot_Plan_Fits cs10 (s2.size : Int) (xB fun b8 =>
br (!((n8 == 0) == b8)) (
K (.bool false)) (
br (!(b3 == (n7 == 0))) (
K (.bool false)) (
br (!(b4 == (n8 == 0))) (
K (.bool false)) (
br b3 (
br (!(strEq s3 s1)) (
K (.bool false)) (
br b4 (
br (!(strEq s4 s2)) (
K (.bool false)) (
br (!b3) (
br (n7 != 3) (
K (.bool false)) (
bondstorelaw07_SlotPuts.j2 K r1 p1 n2 n3 s1)) (
bondstorelaw07_SlotPuts.j2 K r1 p1 n2 n3 s1))) (
br (!b3) (
br (n7 != 3) (
K (.bool false)) (
bondstorelaw07_SlotPuts.j2 K r1 p1 n2 n3 s1)) (
bondstorelaw07_SlotPuts.j2 K r1 p1 n2 n3 s1)))) (
br b4 (
br (!(strEq s4 s2)) (
K (.bool false)) (
br (!b3) (
br (n7 != 3) (
K (.bool false)) (
bondstorelaw07_SlotPuts.j2 K r1 p1 n2 n3 s1)) (
bondstorelaw07_SlotPuts.j2 K r1 p1 n2 n3 s1))) (
br (!b3) (
br (n7 != 3) (
K (.bool false)) (
bondstorelaw07_SlotPuts.j2 K r1 p1 n2 n3 s1)) (
bondstorelaw07_SlotPuts.j2 K r1 p1 n2 n3 s1)))))))))))) v6) v5))) v4) v3))))))))))))))) v2) v1))

def bondstorelaw07_SlotPuts (n1 : Int) (s1 : ByteArray) (s2 : ByteArray) (n2 : Int) (n3 : Int) (K : VK) : WK :=
bondstorelaw07_alive (xB fun b1 =>
br (!b1) (
K (.bool false)) (
br (decide (n1 < 12)) (
bondstorelaw07_SlotPuts.j1 K n1 n2 n3 s1 s2 true) (
br (decide (n1 > 60)) (
bondstorelaw07_SlotPuts.j1 K n1 n2 n3 s1 s2 true) (
br (decide ((IntKind.i64.wrap ((s1.size : Int) + (s2.size : Int))) > 3000)) (
bondstorelaw07_SlotPuts.j1 K n1 n2 n3 s1 s2 true) (
br (decide (n3 < 1)) (
bondstorelaw07_SlotPuts.j1 K n1 n2 n3 s1 s2 true) (
bondstorelaw07_SlotPuts.j1 K n1 n2 n3 s1 s2 (decide (n3 > 1099511627776))))))))

def bondstorelaw07_SlotPuts.u : WP := fun args K => match args with | [.int .i64 n1, .string s1, .string s2, .int .i64 n2, .int .i64 n3] => bondstorelaw07_SlotPuts n1 s1 s2 n2 n3 K | _ => no

def bondstorelaw07_SlotCrash.j2 (K : VK) (p1 : Option Addr) (n2 : Int) (r1 : Nat) (s2 : ByteArray) (n3 : Int) (n4 : Int) (n5 : Int) (s1 : ByteArray) (b3 : Bool) : WK :=
br b3 (
K (.bool true)) (
platter_Disk_Arm p1 n2 (x0
(ldN (⟨r1, 0, none⟩ : Addr) 5 (fun cs2 =>
slot_Plan_Put cs2 p1 1 2 s2 (xI .i64 fun n7 =>
platter_Disk_Crash p1 n3 n4 n5 (x0
(ldN (⟨r1, 0, none⟩ : Addr) 5 (fun cs3 =>
slot_Plan_Get cs3 p1 0 1 (s1.size : Int) (x2 fun v3 v4 => (xS fun s3 =>
(xB fun b4 =>
ldN (⟨r1, 0, none⟩ : Addr) 5 (fun cs4 =>
slot_Plan_Get cs4 p1 1 2 (s2.size : Int) (x2 fun v5 v6 => (xS fun s4 =>
(xB fun b5 =>
(fun w1 => ∃ (I1 : List Value → World → Prop) (μ1 : List Value → World → Nat), I1 [.bool false, .pointer (some (⟨r1, 0, none⟩ : Addr)), .pointer p1, .int .i64 n7, .string s3, .bool b4, .string s4, .bool b5, .bool true, .int .i64 0] w1 ∧
∀ (b6 : Bool) (a1 : Addr) (p2 : Option Addr) (n8 : Int) (s5 : ByteArray) (b7 : Bool) (s6 : ByteArray) (b8 : Bool) (b9 : Bool) (n9 : Int) (w2 : World), I1 [.bool b6, .pointer (some a1), .pointer p2, .int .i64 n8, .string s5, .bool b7, .string s6, .bool b8, .bool b9, .int .i64 n9] w2 → (
bondstoreref05_Count (s2.size : Int) (xI .i64 fun n10 =>
br (decide (n9 < n10)) (
ld (a1.add 1) (xI .i64 fun n11 =>
platter_Disk_Read p2 (IntKind.i64.wrap (n11 + n9)) (x2 fun v7 v8 => (xS fun s7 =>
(xI .i64 fun n12 =>
br b9 (
bondstoreref05_Part s2 n9 (xS fun s8 =>
bondstoreref05_Bytes 2 n9 s8 (xS fun s9 =>
(fun w3 => I1 [.bool b6, .pointer (some a1), .pointer p2, .int .i64 n8, .string s5, .bool b7, .string s6, .bool b8, .bool (strEq s7 s9), .int .i64 (IntKind.i64.wrap (n9 + 1))] w3 ∧ μ1 [.bool b6, .pointer (some a1), .pointer p2, .int .i64 n8, .string s5, .bool b7, .string s6, .bool b8, .bool (strEq s7 s9), .int .i64 (IntKind.i64.wrap (n9 + 1))] w3 < μ1 [.bool b6, .pointer (some a1), .pointer p2, .int .i64 n8, .string s5, .bool b7, .string s6, .bool b8, .bool b9, .int .i64 n9] w2)))) (
(fun w4 => I1 [.bool b6, .pointer (some a1), .pointer p2, .int .i64 n8, .string s5, .bool b7, .string s6, .bool b8, .bool false, .int .i64 (IntKind.i64.wrap (n9 + 1))] w4 ∧ μ1 [.bool b6, .pointer (some a1), .pointer p2, .int .i64 n8, .string s5, .bool b7, .string s6, .bool b8, .bool false, .int .i64 (IntKind.i64.wrap (n9 + 1))] w4 < μ1 [.bool b6, .pointer (some a1), .pointer p2, .int .i64 n8, .string s5, .bool b7, .string s6, .bool b8, .bool b9, .int .i64 n9] w2))) v8) v7))) (
br b7 (
br (strEq s5 s1) (
br (b8 == b9) (
br (n8 != 0) (
br (!b8) (
stamp_Greatest p2 (xI .i64 fun n13 =>
K (.bool (decide (n13 ≤ 2))))) (
br (strEq s6 s2) (
stamp_Greatest p2 (xI .i64 fun n14 =>
K (.bool (decide (n14 ≤ 2))))) (
K (.bool false)))) (
br b8 (
br (!b8) (
stamp_Greatest p2 (xI .i64 fun n15 =>
K (.bool (decide (n15 ≤ 2))))) (
br (strEq s6 s2) (
stamp_Greatest p2 (xI .i64 fun n16 =>
K (.bool (decide (n16 ≤ 2))))) (
K (.bool false)))) (
K (.bool false)))) (
K (.bool false))) (
K (.bool false))) (
K (.bool false))))) w2)) v6) v5))) v4) v3)))))))))

def bondstorelaw07_SlotCrash.j1 (K : VK) (n1 : Int) (s1 : ByteArray) (n2 : Int) (s2 : ByteArray) (n3 : Int) (n4 : Int) (n5 : Int) (b2 : Bool) : WK :=
br b2 (
K (.bool true)) (
slot_Of n1 (x2 fun v1 v2 => (xA 5 fun cs1 =>
(xI .i64 fun n6 =>
mk [.int .i64 0, .int .i64 0, .int .i64 0, .int .i64 0, .int .i64 0] (fun r1 =>
chk (cs1.length = 5) (stN (⟨r1, 0, none⟩ : Addr) cs1 (
platter_New n1 (xP fun p1 =>
ldN (⟨r1, 0, none⟩ : Addr) 5 (fun cs5 =>
slot_Plan_Fits cs5 (s1.size : Int) (xB fun b10 =>
br (!b10) (
bondstorelaw07_SlotCrash.j2 K p1 n2 r1 s2 n3 n4 n5 s1 true) (
ldN (⟨r1, 0, none⟩ : Addr) 5 (fun cs6 =>
slot_Plan_Fits cs6 (s2.size : Int) (xB fun b11 =>
br (!b11) (
bondstorelaw07_SlotCrash.j2 K p1 n2 r1 s2 n3 n4 n5 s1 true) (
ldN (⟨r1, 0, none⟩ : Addr) 5 (fun cs7 =>
slot_Plan_Put cs7 p1 0 1 s1 (xI .i64 fun n17 =>
bondstorelaw07_SlotCrash.j2 K p1 n2 r1 s2 n3 n4 n5 s1 (n17 != 0)))))))))))))) v2) v1))

def bondstorelaw07_SlotCrash (n1 : Int) (s1 : ByteArray) (s2 : ByteArray) (n2 : Int) (n3 : Int) (n4 : Int) (n5 : Int) (K : VK) : WK :=
bondstorelaw07_alive (xB fun b1 =>
br (!b1) (
K (.bool false)) (
br (decide (n1 < 12)) (
bondstorelaw07_SlotCrash.j1 K n1 s1 n2 s2 n3 n4 n5 true) (
br (decide (n1 > 60)) (
bondstorelaw07_SlotCrash.j1 K n1 s1 n2 s2 n3 n4 n5 true) (
br (decide ((IntKind.i64.wrap ((s1.size : Int) + (s2.size : Int))) > 3000)) (
bondstorelaw07_SlotCrash.j1 K n1 s1 n2 s2 n3 n4 n5 true) (
bondstorelaw07_SlotCrash.j1 K n1 s1 n2 s2 n3 n4 n5 (decide (n2 < 0)))))))

def bondstorelaw07_SlotCrash.u : WP := fun args K => match args with | [.int .i64 n1, .string s1, .string s2, .int .i64 n2, .int .u64 n3, .int .i64 n4, .int .i64 n5] => bondstorelaw07_SlotCrash n1 s1 s2 n2 n3 n4 n5 K | _ => no

def crown_Good (cs1 : List Value) (K : VK) : WK :=
mk cs1 (fun r1 =>
ld ((⟨r1, 0, none⟩ : Addr).add 0) (xI .i64 fun n1 =>
br (decide (n1 ≥ 1)) (
ld ((⟨r1, 0, none⟩ : Addr).add 0) (xI .i64 fun n2 =>
br (decide (n2 ≤ 1152921504606846976)) (
ld ((⟨r1, 0, none⟩ : Addr).add 1) (xI .i64 fun n3 =>
br (decide (n3 ≥ 1)) (
ld ((⟨r1, 0, none⟩ : Addr).add 1) (xI .i64 fun n4 =>
br (decide (n4 ≤ 1152921504606846976)) (
ld ((⟨r1, 0, none⟩ : Addr).add 2) (xI .i64 fun n5 =>
br (decide (n5 ≥ 0)) (
ld ((⟨r1, 0, none⟩ : Addr).add 2) (xI .i64 fun n6 =>
br (decide (n6 ≤ 425984)) (
ld ((⟨r1, 0, none⟩ : Addr).add 3) (xI .i64 fun n7 =>
br (decide (n7 ≥ 0)) (
ld ((⟨r1, 0, none⟩ : Addr).add 3) (xI .i64 fun n8 =>
K (.bool (decide (n8 ≤ 1152921504606846976))))) (
K (.bool false)))) (
K (.bool false)))) (
K (.bool false)))) (
K (.bool false)))) (
K (.bool false)))) (
K (.bool false)))) (
K (.bool false))))

def crown_Good.u : WP := fun args K => match args with | [.agg ⟨cs1⟩] => crown_Good cs1 K | _ => no

def crown_Bytes (cs1 : List Value) (K : VK) : WK :=
mk cs1 (fun r1 =>
ldN (⟨r1, 0, none⟩ : Addr) 4 (fun cs2 =>
crown_Good cs2 (xB fun b1 =>
br (!b1) (
K (.tuple ⟨[.string .empty, .int .i64 1]⟩)) (
chk True (
mk [.slice none 0 0] (fun r2 =>
ld ((⟨r1, 0, none⟩ : Addr).add 0) (xI .i64 fun n1 =>
ld ((⟨r1, 0, none⟩ : Addr).add 1) (xI .i64 fun n2 =>
ld ((⟨r1, 0, none⟩ : Addr).add 2) (xI .i64 fun n3 =>
ld ((⟨r1, 0, none⟩ : Addr).add 3) (xI .i64 fun n4 =>
chk (1 = 1 ∧ (1 = 1 ∧ (1 = 1 ∧ (1 = 1 ∧ True)))) (
(fun w1 => ∃ (I1 : List Value → World → Prop) (μ1 : List Value → World → Nat), I1 [.string .empty, .int .i64 0, .pointer (some (⟨r2, 0, none⟩ : Addr)), .agg ⟨[.int .i64 n1, .int .i64 n2, .int .i64 n3, .int .i64 n4]⟩, .int .i64 0] w1 ∧
∀ (s1 : ByteArray) (n5 : Int) (a1 : Addr) (cs3 : List Value) (n6 : Int) (w2 : World), I1 [.string s1, .int .i64 n5, .pointer (some a1), .agg ⟨cs3⟩, .int .i64 n6] w2 → (
br (decide (n6 < 4)) (
ixArr cs3 4 n6 (xI .i64 fun n7 =>
tape_Writer_Int (some a1) 8 n7 (x0
((fun w3 => I1 [.string s1, .int .i64 n5, .pointer (some a1), .agg ⟨cs3⟩, .int .i64 (IntKind.i64.wrap (n6 + 1))] w3 ∧ μ1 [.string s1, .int .i64 n5, .pointer (some a1), .agg ⟨cs3⟩, .int .i64 (IntKind.i64.wrap (n6 + 1))] w3 < μ1 [.string s1, .int .i64 n5, .pointer (some a1), .agg ⟨cs3⟩, .int .i64 n6] w2))))) (
tape_Writer_String (some a1) (xS fun s2 =>
K (.tuple ⟨[.string s2, .int .i64 0]⟩)))) w2))))))))))))

def crown_Bytes.u : WP := fun args K => match args with | [.agg ⟨cs1⟩] => crown_Bytes cs1 K | _ => no

def crown_Put (p1 : Option Addr) (n1 : Int) (cs1 : List Value) (K : VK) : WK :=
mk cs1 (fun r1 =>
ldN (⟨r1, 0, none⟩ : Addr) 4 (fun cs2 =>
crown_Bytes cs2 (x2 fun v1 v2 => (xS fun s1 =>
(xI .i64 fun n2 =>
br (p1.isNone) (
K (.int .i64 2)) (
br (n2 != 0) (
K (.int .i64 n2)) (
ld ((⟨r1, 0, none⟩ : Addr).add 0) (xI .i64 fun n3 =>
ld ((⟨r1, 0, none⟩ : Addr).add 0) (xI .i64 fun n4 =>
stamp_Lay p1 (isum .i64 .and n3 1) (IntKind.i64.wrap ((isum .i64 .and n4 1) + 1)) n1 s1 (xI .i64 fun n5 =>
br (n5 != 0) (
K (.int .i64 n5)) (
platter_Disk_Sync p1 (xI .i64 fun n6 =>
K (.int .i64 n6))))))))) v2) v1)))

def crown_Put.u : WP := fun args K => match args with | [.pointer p1, .int .i64 n1, .agg ⟨cs1⟩] => crown_Put p1 n1 cs1 K | _ => no

def tape_Reader_End (p1 : Option Addr) (K : VK) : WK :=
br (!(p1.isNone)) (
nn p1 (fun a1 =>
ld (a1.add 1) (xB fun b1 =>
br (!b1) (
nn p1 (fun a2 =>
ld (a2.add 0) (xS fun s1 =>
K (.bool (strEq s1 (⟨#[]⟩ : ByteArray)))))) (
K (.bool false))))) (
K (.bool false))

def tape_Reader_End.u : WP := fun args K => match args with | [.pointer p1] => tape_Reader_End p1 K | _ => no

def crown_Read (s1 : ByteArray) (K : VK) : WK :=
mk [.int .i64 0, .int .i64 0, .int .i64 0, .int .i64 0] (fun r1 =>
tape_Read s1 (xP fun p1 =>
tape_Reader_Int p1 8 (xI .i64 fun n1 =>
tape_Reader_Int p1 8 (xI .i64 fun n2 =>
tape_Reader_Int p1 8 (xI .i64 fun n3 =>
tape_Reader_Int p1 8 (xI .i64 fun n4 =>
chk (1 = 1 ∧ (1 = 1 ∧ (1 = 1 ∧ (1 = 1 ∧ True)))) (
mk [.int .i64 0, .int .i64 0, .int .i64 0, .int .i64 0] (fun r2 =>
chk (4 = 4) (stN (⟨r2, 0, none⟩ : Addr) [.int .i64 n1, .int .i64 n2, .int .i64 n3, .int .i64 n4] (
tape_Reader_End p1 (xB fun b1 =>
br (!b1) (
chk True (
chk (4 = 4) (stN (⟨r1, 0, none⟩ : Addr) [.int .i64 0, .int .i64 0, .int .i64 0, .int .i64 0] (
ldN (⟨r1, 0, none⟩ : Addr) 4 (fun cs1 =>
K (.tuple ⟨[.agg ⟨cs1⟩, .bool false]⟩)))))) (
ldN (⟨r2, 0, none⟩ : Addr) 4 (fun cs2 =>
crown_Good cs2 (xB fun b2 =>
br (!b2) (
chk True (
chk (4 = 4) (stN (⟨r1, 0, none⟩ : Addr) [.int .i64 0, .int .i64 0, .int .i64 0, .int .i64 0] (
ldN (⟨r1, 0, none⟩ : Addr) 4 (fun cs3 =>
K (.tuple ⟨[.agg ⟨cs3⟩, .bool false]⟩)))))) (
ldN (⟨r2, 0, none⟩ : Addr) 4 (fun cs4 =>
chk (cs4.length = 4) (stN (⟨r1, 0, none⟩ : Addr) cs4 (
ldN (⟨r1, 0, none⟩ : Addr) 4 (fun cs5 =>
K (.tuple ⟨[.agg ⟨cs5⟩, .bool true]⟩))))))))))))))))))))

def crown_Read.u : WP := fun args K => match args with | [.string s1] => crown_Read s1 K | _ => no

def crown_at.j1 (K : VK) (r1 : Nat) (r2 : Nat) (n1 : Int) (b2 : Bool) : WK :=
br b2 (
chk True (
chk (4 = 4) (stN (⟨r1, 0, none⟩ : Addr) [.int .i64 0, .int .i64 0, .int .i64 0, .int .i64 0] (
ldN (⟨r1, 0, none⟩ : Addr) 4 (fun cs2 =>
K (.tuple ⟨[.agg ⟨cs2⟩, .bool false]⟩)))))) (
ld ((⟨r2, 0, none⟩ : Addr).add 2) (xS fun s2 =>
crown_Read s2 (x2 fun v5 v6 => (xA 4 fun cs3 =>
(xB fun b3 =>
mk [.int .i64 0, .int .i64 0, .int .i64 0, .int .i64 0] (fun r3 =>
chk (cs3.length = 4) (stN (⟨r3, 0, none⟩ : Addr) cs3 (
br (!b3) (
chk True (
chk (4 = 4) (stN (⟨r1, 0, none⟩ : Addr) [.int .i64 0, .int .i64 0, .int .i64 0, .int .i64 0] (
ldN (⟨r1, 0, none⟩ : Addr) 4 (fun cs4 =>
K (.tuple ⟨[.agg ⟨cs4⟩, .bool false]⟩)))))) (
ld ((⟨r3, 0, none⟩ : Addr).add 0) (xI .i64 fun n3 =>
br ((isum .i64 .and n3 1) != n1) (
chk True (
chk (4 = 4) (stN (⟨r1, 0, none⟩ : Addr) [.int .i64 0, .int .i64 0, .int .i64 0, .int .i64 0] (
ldN (⟨r1, 0, none⟩ : Addr) 4 (fun cs5 =>
K (.tuple ⟨[.agg ⟨cs5⟩, .bool false]⟩)))))) (
ldN (⟨r3, 0, none⟩ : Addr) 4 (fun cs6 =>
chk (cs6.length = 4) (stN (⟨r1, 0, none⟩ : Addr) cs6 (
ldN (⟨r1, 0, none⟩ : Addr) 4 (fun cs7 =>
K (.tuple ⟨[.agg ⟨cs7⟩, .bool true]⟩)))))))))))) v6) v5)))

def crown_at (p1 : Option Addr) (n1 : Int) (K : VK) : WK :=
mk [.int .i64 0, .int .i64 0, .int .i64 0, .int .i64 0] (fun r1 =>
platter_Disk_Read p1 n1 (x2 fun v1 v2 => (xS fun s1 =>
(xI .i64 fun n2 =>
stamp_Read s1 (x2 fun v3 v4 => (xA 3 fun cs1 =>
(xB fun b1 =>
mk [.int .i64 0, .int .i64 0, .string .empty] (fun r2 =>
chk (cs1.length = 3) (stN (⟨r2, 0, none⟩ : Addr) cs1 (
br (n2 != 0) (
crown_at.j1 K r1 r2 n1 true) (
br (!b1) (
crown_at.j1 K r1 r2 n1 true) (
ld ((⟨r2, 0, none⟩ : Addr).add 1) (xI .i64 fun n4 =>
crown_at.j1 K r1 r2 n1 (n4 != 0)))))))) v4) v3)) v2) v1))

def crown_at.u : WP := fun args K => match args with | [.pointer p1, .int .i64 n1] => crown_at p1 n1 K | _ => no

def crown_Newest (p1 : Option Addr) (K : VK) : WK :=
mk [.int .i64 0, .int .i64 0, .int .i64 0, .int .i64 0] (fun r1 =>
crown_at p1 0 (x2 fun v1 v2 => (xA 4 fun cs1 =>
(xB fun b1 =>
mk [.int .i64 0, .int .i64 0, .int .i64 0, .int .i64 0] (fun r2 =>
chk (cs1.length = 4) (stN (⟨r2, 0, none⟩ : Addr) cs1 (
crown_at p1 1 (x2 fun v3 v4 => (xA 4 fun cs2 =>
(xB fun b2 =>
mk [.int .i64 0, .int .i64 0, .int .i64 0, .int .i64 0] (fun r3 =>
chk (cs2.length = 4) (stN (⟨r3, 0, none⟩ : Addr) cs2 (
br b2 (
br (!b1) (
ldN (⟨r3, 0, none⟩ : Addr) 4 (fun cs3 =>
chk (cs3.length = 4) (stN (⟨r1, 0, none⟩ : Addr) cs3 (
ldN (⟨r1, 0, none⟩ : Addr) 4 (fun cs4 =>
K (.tuple ⟨[.agg ⟨cs4⟩, .bool true]⟩)))))) (
ld ((⟨r3, 0, none⟩ : Addr).add 0) (xI .i64 fun n1 =>
ld ((⟨r2, 0, none⟩ : Addr).add 0) (xI .i64 fun n2 =>
br (decide (n1 > n2)) (
ldN (⟨r3, 0, none⟩ : Addr) 4 (fun cs5 =>
chk (cs5.length = 4) (stN (⟨r1, 0, none⟩ : Addr) cs5 (
ldN (⟨r1, 0, none⟩ : Addr) 4 (fun cs6 =>
K (.tuple ⟨[.agg ⟨cs6⟩, .bool true]⟩)))))) (
ldN (⟨r2, 0, none⟩ : Addr) 4 (fun cs7 =>
chk (cs7.length = 4) (stN (⟨r1, 0, none⟩ : Addr) cs7 (
ldN (⟨r1, 0, none⟩ : Addr) 4 (fun cs8 =>
K (.tuple ⟨[.agg ⟨cs8⟩, .bool b1]⟩)))))))))) (
ldN (⟨r2, 0, none⟩ : Addr) 4 (fun cs9 =>
chk (cs9.length = 4) (stN (⟨r1, 0, none⟩ : Addr) cs9 (
ldN (⟨r1, 0, none⟩ : Addr) 4 (fun cs10 =>
K (.tuple ⟨[.agg ⟨cs10⟩, .bool b1]⟩)))))))))) v4) v3))))) v2) v1))

def crown_Newest.u : WP := fun args K => match args with | [.pointer p1] => crown_Newest p1 K | _ => no

def bondstorelaw08_alive  (K : VK) : WK :=
platter_New 2 (xP fun p1 =>
chk (1 = 1 ∧ (1 = 1 ∧ True)) (
crown_Put p1 1 [.int .i64 3, .int .i64 5, .int .i64 0, .int .i64 0] (xI .i64 fun n1 =>
crown_Newest p1 (x2 fun v1 v2 => (xA 4 fun cs1 =>
(xB fun b1 =>
mk [.int .i64 0, .int .i64 0, .int .i64 0, .int .i64 0] (fun r1 =>
chk (cs1.length = 4) (stN (⟨r1, 0, none⟩ : Addr) cs1 (
br (n1 == 0) (
br b1 (
ldN (⟨r1, 0, none⟩ : Addr) 4 (fun cs2 =>
chk (1 = 1 ∧ (1 = 1 ∧ True)) (
eqC [.int .i64 0, .int .i64 0, .int .i64 0, .int .i64 0] cs2 [.int .i64 3, .int .i64 5, .int .i64 0, .int .i64 0] (fun b2 =>
K (.bool b2))))) (
K (.bool false))) (
K (.bool false)))))) v2) v1))))

def bondstorelaw08_alive.u : WP := fun args K => match args with | [] => bondstorelaw08_alive  K | _ => no

def bondstoreref08_Good (n1 : Int) (n2 : Int) (n3 : Int) (n4 : Int) (K : VK) : WK :=
br (decide (n1 ≥ 1)) (
br (decide (n1 ≤ 1152921504606846976)) (
br (decide (n2 ≥ 1)) (
br (decide (n2 ≤ 1152921504606846976)) (
br (decide (n3 ≥ 0)) (
br (decide (n3 ≤ 425984)) (
br (decide (n4 ≥ 0)) (
K (.bool (decide (n4 ≤ 1152921504606846976)))) (
K (.bool false))) (
K (.bool false))) (
K (.bool false))) (
K (.bool false))) (
K (.bool false))) (
K (.bool false))) (
K (.bool false))

def bondstoreref08_Good.u : WP := fun args K => match args with | [.int .i64 n1, .int .i64 n2, .int .i64 n3, .int .i64 n4] => bondstoreref08_Good n1 n2 n3 n4 K | _ => no

def bondstorelaw08_good (cs1 : List Value) (K : VK) : WK :=
mk cs1 (fun r1 =>
ld ((⟨r1, 0, none⟩ : Addr).add 0) (xI .i64 fun n1 =>
ld ((⟨r1, 0, none⟩ : Addr).add 1) (xI .i64 fun n2 =>
ld ((⟨r1, 0, none⟩ : Addr).add 2) (xI .i64 fun n3 =>
ld ((⟨r1, 0, none⟩ : Addr).add 3) (xI .i64 fun n4 =>
bondstoreref08_Good n1 n2 n3 n4 (xB fun b1 =>
K (.bool b1)))))))

def bondstorelaw08_good.u : WP := fun args K => match args with | [.agg ⟨cs1⟩] => bondstorelaw08_good cs1 K | _ => no

def bondstoreref08_Bytes (n1 : Int) (n2 : Int) (n3 : Int) (n4 : Int) (K : VK) : WK :=
bondstoreref03_Int 8 n1 (xS fun s1 =>
bondstoreref03_Int 8 n2 (xS fun s2 =>
chk (((s1.size + s2.size : Nat) : Int) ≤ 9223372036854775807) (
bondstoreref03_Int 8 n3 (xS fun s3 =>
chk ((((s1 ++ s2).size + s3.size : Nat) : Int) ≤ 9223372036854775807) (
bondstoreref03_Int 8 n4 (xS fun s4 =>
chk (((((s1 ++ s2) ++ s3).size + s4.size : Nat) : Int) ≤ 9223372036854775807) (
K (.string (((s1 ++ s2) ++ s3) ++ s4)))))))))

def bondstoreref08_Bytes.u : WP := fun args K => match args with | [.int .i64 n1, .int .i64 n2, .int .i64 n3, .int .i64 n4] => bondstoreref08_Bytes n1 n2 n3 n4 K | _ => no

def bondstorelaw08_bytes (cs1 : List Value) (K : VK) : WK :=
mk cs1 (fun r1 =>
ld ((⟨r1, 0, none⟩ : Addr).add 0) (xI .i64 fun n1 =>
ld ((⟨r1, 0, none⟩ : Addr).add 1) (xI .i64 fun n2 =>
ld ((⟨r1, 0, none⟩ : Addr).add 2) (xI .i64 fun n3 =>
ld ((⟨r1, 0, none⟩ : Addr).add 3) (xI .i64 fun n4 =>
bondstoreref08_Bytes n1 n2 n3 n4 (xS fun s1 =>
K (.string s1)))))))

def bondstorelaw08_bytes.u : WP := fun args K => match args with | [.agg ⟨cs1⟩] => bondstorelaw08_bytes cs1 K | _ => no

def bondstorelaw08_CrownBytes.j1 (K : VK) (b5 : Bool) : WK :=
K (.bool b5)

def bondstorelaw08_CrownBytes (cs1 : List Value) (K : VK) : WK :=
mk cs1 (fun r1 =>
bondstorelaw08_alive (xB fun b1 =>
br (!b1) (
K (.bool false)) (
ldN (⟨r1, 0, none⟩ : Addr) 4 (fun cs2 =>
crown_Bytes cs2 (x2 fun v1 v2 => (xS fun s1 =>
(xI .i64 fun n1 =>
tick (
ldN (⟨r1, 0, none⟩ : Addr) 4 (fun cs3 =>
ldN (⟨r1, 0, none⟩ : Addr) 4 (fun cs4 =>
crown_Good cs3 (xB fun b2 =>
kp (⟨r1, 0, none⟩ : Addr) cs4 (
bondstorelaw08_good cs4 (xB fun b3 =>
br (!(b2 == b3)) (
K (.bool false)) (
ldN (⟨r1, 0, none⟩ : Addr) 4 (fun cs5 =>
bondstorelaw08_good cs5 (xB fun b4 =>
br (!b4) (
br (n1 == 1) (
bondstorelaw08_CrownBytes.j1 K (strEq s1 (⟨#[]⟩ : ByteArray))) (
bondstorelaw08_CrownBytes.j1 K false)) (
crown_Read s1 (x2 fun v3 v4 => (xA 4 fun cs6 =>
(xB fun b6 =>
mk [.int .i64 0, .int .i64 0, .int .i64 0, .int .i64 0] (fun r2 =>
chk (cs6.length = 4) (stN (⟨r2, 0, none⟩ : Addr) cs6 (
br (n1 == 0) (
ldN (⟨r1, 0, none⟩ : Addr) 4 (fun cs7 =>
bondstorelaw08_bytes cs7 (xS fun s2 =>
br (strEq s1 s2) (
br b6 (
ldN (⟨r2, 0, none⟩ : Addr) 4 (fun cs8 =>
ldN (⟨r1, 0, none⟩ : Addr) 4 (fun cs9 =>
eqC [.int .i64 0, .int .i64 0, .int .i64 0, .int .i64 0] cs8 cs9 (fun b7 =>
K (.bool b7))))) (
K (.bool false))) (
K (.bool false))))) (
K (.bool false)))))) v4) v3)))))))))))) v2) v1)))))

def bondstorelaw08_CrownBytes.u : WP := fun args K => match args with | [.agg ⟨cs1⟩] => bondstorelaw08_CrownBytes cs1 K | _ => no

def bondstorelaw08_CrownReads (s1 : ByteArray) (K : VK) : WK :=
bondstorelaw08_alive (xB fun b1 =>
br (!b1) (
K (.bool false)) (
br (decide ((s1.size : Int) > 100)) (
K (.bool true)) (
crown_Read s1 (x2 fun v1 v2 => (xA 4 fun cs1 =>
(xB fun b2 =>
mk [.int .i64 0, .int .i64 0, .int .i64 0, .int .i64 0] (fun r1 =>
chk (cs1.length = 4) (stN (⟨r1, 0, none⟩ : Addr) cs1 (
br (!b2) (
ldN (⟨r1, 0, none⟩ : Addr) 4 (fun cs2 =>
chk True (
eqC [.int .i64 0, .int .i64 0, .int .i64 0, .int .i64 0] cs2 [.int .i64 0, .int .i64 0, .int .i64 0, .int .i64 0] (fun b3 =>
K (.bool b3))))) (
ldN (⟨r1, 0, none⟩ : Addr) 4 (fun cs3 =>
bondstorelaw08_good cs3 (xB fun b4 =>
br b4 (
ldN (⟨r1, 0, none⟩ : Addr) 4 (fun cs4 =>
bondstorelaw08_bytes cs4 (xS fun s2 =>
K (.bool (strEq s2 s1))))) (
K (.bool false))))))))) v2) v1))))

def bondstorelaw08_CrownReads.u : WP := fun args K => match args with | [.string s1] => bondstorelaw08_CrownReads s1 K | _ => no

def bondstorelaw08_newest (sb1 : Option Addr) (sn1 : Nat) (sc1 : Nat) (K : VK) : WK :=
mk [.int .i64 0, .int .i64 0, .int .i64 0, .int .i64 0] (fun r1 =>
chk True (
mk [.int .i64 0, .int .i64 0, .int .i64 0, .int .i64 0, .int .i64 0, .int .i64 0, .int .i64 0, .int .i64 0] (fun r2 =>
chk (8 = 8) (stN (⟨r2, 0, none⟩ : Addr) [.int .i64 0, .int .i64 0, .int .i64 0, .int .i64 0, .int .i64 0, .int .i64 0, .int .i64 0, .int .i64 0] (
(fun w1 => ∃ (I1 : List Value → World → Prop) (μ1 : List Value → World → Nat), I1 [.pointer (some (⟨r1, 0, none⟩ : Addr)), .bool false, .pointer (some (⟨r2, 0, none⟩ : Addr)), .slice sb1 sn1 sc1, .int .i64 (sn1 : Int), .int .i64 0] w1 ∧
∀ (a1 : Addr) (b1 : Bool) (a2 : Addr) (sb2 : Option Addr) (sn2 : Nat) (sc2 : Nat) (n1 : Int) (n2 : Int) (w2 : World), I1 [.pointer (some a1), .bool b1, .pointer (some a2), .slice sb2 sn2 sc2, .int .i64 n1, .int .i64 n2] w2 → (
br (decide (n2 < n1)) (
ixs sb2 sn2 n2 4 (fun a3 =>
ldN a3 4 (fun cs1 =>
mk [.int .i64 0, .int .i64 0, .int .i64 0, .int .i64 0] (fun r3 =>
chk (cs1.length = 4) (stN (⟨r3, 0, none⟩ : Addr) cs1 (
ld ((⟨r3, 0, none⟩ : Addr).add 0) (xI .i64 fun n3 =>
chk ((2 : Int) ≠ 0) (
ldN (⟨r3, 0, none⟩ : Addr) 4 (fun cs2 =>
chk ((0 : Int) ≤ (n3.tmod (2 : Int)) ∧ (n3.tmod (2 : Int)) < 2) (
chk (cs2.length = 4) (stN (a2.add ((n3.tmod (2 : Int)).toNat * 4)) cs2 (
(fun w3 => I1 [.pointer (some a1), .bool b1, .pointer (some a2), .slice sb2 sn2 sc2, .int .i64 n1, .int .i64 (IntKind.i64.wrap (n2 + 1))] w3 ∧ μ1 [.pointer (some a1), .bool b1, .pointer (some a2), .slice sb2 sn2 sc2, .int .i64 n1, .int .i64 (IntKind.i64.wrap (n2 + 1))] w3 < μ1 [.pointer (some a1), .bool b1, .pointer (some a2), .slice sb2 sn2 sc2, .int .i64 n1, .int .i64 n2] w2))))))))))))) (
chk ((0 : Int) ≤ 1 ∧ (1 : Int) < 2) (
ld ((a2.add ((1 : Int).toNat * 4)).add 0) (xI .i64 fun n4 =>
chk ((0 : Int) ≤ 0 ∧ (0 : Int) < 2) (
ld ((a2.add ((0 : Int).toNat * 4)).add 0) (xI .i64 fun n5 =>
br (decide (n4 > n5)) (
chk ((0 : Int) ≤ 1 ∧ (1 : Int) < 2) (
ldN (a2.add ((1 : Int).toNat * 4)) 4 (fun cs3 =>
chk (cs3.length = 4) (stN a1 cs3 (
ldN a1 4 (fun cs4 =>
K (.tuple ⟨[.agg ⟨cs4⟩, .bool true]⟩))))))) (
tick (
chk ((0 : Int) ≤ 0 ∧ (0 : Int) < 2) (
ldN (a2.add ((0 : Int).toNat * 4)) 4 (fun cs5 =>
chk ((0 : Int) ≤ 0 ∧ (0 : Int) < 2) (
ld ((a2.add ((0 : Int).toNat * 4)).add 0) (xI .i64 fun n6 =>
chk (cs5.length = 4) (stN a1 cs5 (
kp ((a2.add ((0 : Int).toNat * 4)).add 0) [.int .i64 n6] (
ldN a1 4 (fun cs6 =>
K (.tuple ⟨[.agg ⟨cs6⟩, .bool (decide (n6 > 0))]⟩))))))))))))))))) w2))))))

def bondstorelaw08_newest.u : WP := fun args K => match args with | [.slice sb1 sn1 sc1] => bondstorelaw08_newest sb1 sn1 sc1 K | _ => no

def bondstorelaw08_CrownPuts.j1 (K : VK) (sb1 : Option Addr) (sn1 : Nat) (sc1 : Nat) (n1 : Int) (b2 : Bool) : WK :=
br b2 (
K (.bool true)) (
platter_New 4 (xP fun p1 =>
(fun w1 => ∃ (I1 : List Value → World → Prop) (μ1 : List Value → World → Nat), I1 [.bool false, .pointer p1, .slice none 0 0, .slice sb1 sn1 sc1, .int .i64 (sn1 : Int), .int .i64 0] w1 ∧
∀ (b3 : Bool) (p2 : Option Addr) (sb2 : Option Addr) (sn2 : Nat) (sc2 : Nat) (sb3 : Option Addr) (sn3 : Nat) (sc3 : Nat) (n2 : Int) (n3 : Int) (w2 : World), I1 [.bool b3, .pointer p2, .slice sb2 sn2 sc2, .slice sb3 sn3 sc3, .int .i64 n2, .int .i64 n3] w2 → (
br (decide (n3 < n2)) (
ixs sb3 sn3 n3 4 (fun a1 =>
ldN a1 4 (fun cs1 =>
mk [.int .i64 0, .int .i64 0, .int .i64 0, .int .i64 0] (fun r1 =>
chk (cs1.length = 4) (stN (⟨r1, 0, none⟩ : Addr) cs1 (
ldN (⟨r1, 0, none⟩ : Addr) 4 (fun cs2 =>
crown_Put p2 (IntKind.i64.wrap (n1 + n3)) cs2 (xI .i64 fun n4 =>
ldN (⟨r1, 0, none⟩ : Addr) 4 (fun cs3 =>
bondstorelaw08_good cs3 (xB fun b4 =>
br (!b4) (
br (n4 != 1) (
K (.bool false)) (
(fun w3 => I1 [.bool b3, .pointer p2, .slice sb2 sn2 sc2, .slice sb3 sn3 sc3, .int .i64 n2, .int .i64 (IntKind.i64.wrap (n3 + 1))] w3 ∧ μ1 [.bool b3, .pointer p2, .slice sb2 sn2 sc2, .slice sb3 sn3 sc3, .int .i64 n2, .int .i64 (IntKind.i64.wrap (n3 + 1))] w3 < μ1 [.bool b3, .pointer p2, .slice sb2 sn2 sc2, .slice sb3 sn3 sc3, .int .i64 n2, .int .i64 n3] w2))) (
ldN (⟨r1, 0, none⟩ : Addr) 4 (fun cs4 =>
chk (cs4.length = 4 ∧ True) (mk (cs4 ++ []) (fun r2 =>
appSl 4 32 [.int .i64 0, .int .i64 0, .int .i64 0, .int .i64 0] sb2 sn2 sc2 (some ⟨r2, 0, none⟩) 1 (fun sb4 sn4 sc4 =>
crown_Newest p2 (x2 fun v1 v2 => (xA 4 fun cs5 =>
(xB fun b5 =>
mk [.int .i64 0, .int .i64 0, .int .i64 0, .int .i64 0] (fun r3 =>
chk (cs5.length = 4) (stN (⟨r3, 0, none⟩ : Addr) cs5 (
bondstorelaw08_newest sb4 sn4 sc4 (x2 fun v3 v4 => (xA 4 fun cs6 =>
(xB fun b6 =>
mk [.int .i64 0, .int .i64 0, .int .i64 0, .int .i64 0] (fun r4 =>
chk (cs6.length = 4) (stN (⟨r4, 0, none⟩ : Addr) cs6 (
br (n4 != 0) (
K (.bool false)) (
ldN (⟨r3, 0, none⟩ : Addr) 4 (fun cs7 =>
ldN (⟨r4, 0, none⟩ : Addr) 4 (fun cs8 =>
eqC [.int .i64 0, .int .i64 0, .int .i64 0, .int .i64 0] cs7 cs8 (fun b7 =>
br (!b7) (
K (.bool false)) (
br (!(b5 == b6)) (
K (.bool false)) (
(fun w4 => I1 [.bool b3, .pointer p2, .slice sb4 sn4 sc4, .slice sb3 sn3 sc3, .int .i64 n2, .int .i64 (IntKind.i64.wrap (n3 + 1))] w4 ∧ μ1 [.bool b3, .pointer p2, .slice sb4 sn4 sc4, .slice sb3 sn3 sc3, .int .i64 n2, .int .i64 (IntKind.i64.wrap (n3 + 1))] w4 < μ1 [.bool b3, .pointer p2, .slice sb2 sn2 sc2, .slice sb3 sn3 sc3, .int .i64 n2, .int .i64 n3] w2))))))))))) v4) v3))))) v2) v1)))))))))))))))) (
platter_New 0 (xP fun p3 =>
crown_Newest p3 (x2 fun v5 v6 => (xA 4 fun cs9 =>
(xB fun b8 =>
mk [.int .i64 0, .int .i64 0, .int .i64 0, .int .i64 0] (fun r5 =>
chk (cs9.length = 4) (stN (⟨r5, 0, none⟩ : Addr) cs9 (
chk (1 = 1 ∧ (1 = 1 ∧ True)) (
crown_Put none 1 [.int .i64 1, .int .i64 1, .int .i64 0, .int .i64 0] (xI .i64 fun n5 =>
br (n5 == 2) (
platter_New 4 (xP fun p4 =>
chk (1 = 1 ∧ (1 = 1 ∧ True)) (
crown_Put p4 0 [.int .i64 1, .int .i64 1, .int .i64 0, .int .i64 0] (xI .i64 fun n6 =>
br (n6 == 1) (
K (.bool (!b8))) (
K (.bool false)))))) (
K (.bool false)))))))) v6) v5)))) w2)))

def bondstorelaw08_CrownPuts (sb1 : Option Addr) (sn1 : Nat) (sc1 : Nat) (n1 : Int) (K : VK) : WK :=
bondstorelaw08_alive (xB fun b1 =>
br (!b1) (
K (.bool false)) (
br (decide ((sn1 : Int) > 30)) (
bondstorelaw08_CrownPuts.j1 K sb1 sn1 sc1 n1 true) (
br (decide (n1 < 1)) (
bondstorelaw08_CrownPuts.j1 K sb1 sn1 sc1 n1 true) (
bondstorelaw08_CrownPuts.j1 K sb1 sn1 sc1 n1 (decide (n1 > 1099511627776))))))

def bondstorelaw08_CrownPuts.u : WP := fun args K => match args with | [.slice sb1 sn1 sc1, .int .i64 n1] => bondstorelaw08_CrownPuts sb1 sn1 sc1 n1 K | _ => no

def bondstorelaw08_CrownCrash.j2 (K : VK) (r1 : Nat) (p1 : Option Addr) (n3 : Int) (r2 : Nat) (n4 : Int) (n5 : Int) (n6 : Int) : WK :=
ldN (⟨r1, 0, none⟩ : Addr) 4 (fun cs2 =>
crown_Put p1 2 cs2 (xI .i64 fun n9 =>
platter_Disk_Arm p1 n3 (x0
(ldN (⟨r2, 0, none⟩ : Addr) 4 (fun cs3 =>
crown_Put p1 3 cs3 (xI .i64 fun n10 =>
platter_Disk_Crash p1 n4 n5 n6 (x0
(crown_Newest p1 (x2 fun v1 v2 => (xA 4 fun cs4 =>
(xB fun b3 =>
mk [.int .i64 0, .int .i64 0, .int .i64 0, .int .i64 0] (fun r3 =>
chk (cs4.length = 4) (stN (⟨r3, 0, none⟩ : Addr) cs4 (
ld ((⟨r2, 0, none⟩ : Addr).add 0) (xI .i64 fun n11 =>
chk ((2 : Int) ≠ 0) (
platter_Disk_Read p1 (n11.tmod (2 : Int)) (x2 fun v3 v4 => (xS fun s1 =>
(xI .i64 fun n12 =>
ldN (⟨r2, 0, none⟩ : Addr) 4 (fun cs5 =>
bondstorelaw08_bytes cs5 (xS fun s2 =>
bondstoreref05_Bytes 3 0 s2 (xS fun s3 =>
br b3 (
ldN (⟨r3, 0, none⟩ : Addr) 4 (fun cs6 =>
ldN (⟨r2, 0, none⟩ : Addr) 4 (fun cs7 =>
eqC [.int .i64 0, .int .i64 0, .int .i64 0, .int .i64 0] cs6 cs7 (fun b4 =>
br (b4 == (strEq s1 s3)) (
br (strEq s1 s3) (
br (n10 != 0) (
stamp_Greatest p1 (xI .i64 fun n13 =>
K (.bool (decide (n13 ≤ 3))))) (
br (strEq s1 s3) (
stamp_Greatest p1 (xI .i64 fun n14 =>
K (.bool (decide (n14 ≤ 3))))) (
K (.bool false)))) (
ldN (⟨r3, 0, none⟩ : Addr) 4 (fun cs8 =>
ldN (⟨r1, 0, none⟩ : Addr) 4 (fun cs9 =>
eqC [.int .i64 0, .int .i64 0, .int .i64 0, .int .i64 0] cs8 cs9 (fun b5 =>
br b5 (
br (n10 != 0) (
stamp_Greatest p1 (xI .i64 fun n15 =>
K (.bool (decide (n15 ≤ 3))))) (
br (strEq s1 s3) (
stamp_Greatest p1 (xI .i64 fun n16 =>
K (.bool (decide (n16 ≤ 3))))) (
K (.bool false)))) (
K (.bool false))))))) (
K (.bool false)))))) (
K (.bool false)))))) v4) v3))))))) v2) v1)))))))))

def bondstorelaw08_CrownCrash.j1 (K : VK) (r1 : Nat) (n3 : Int) (r2 : Nat) (n4 : Int) (n5 : Int) (n6 : Int) (b2 : Bool) : WK :=
br b2 (
K (.bool true)) (
platter_New 4 (xP fun p1 =>
ld ((⟨r1, 0, none⟩ : Addr).add 0) (xI .i64 fun n17 =>
br (decide (n17 > 1)) (
ld ((⟨r1, 0, none⟩ : Addr).add 0) (xI .i64 fun n18 =>
chk (1 = 1 ∧ (1 = 1 ∧ True)) (
crown_Put p1 1 [.int .i64 (IntKind.i64.wrap (n18 - 1)), .int .i64 1, .int .i64 0, .int .i64 0] (xI .i64 fun n19 =>
bondstorelaw08_CrownCrash.j2 K r1 p1 n3 r2 n4 n5 n6)))) (
bondstorelaw08_CrownCrash.j2 K r1 p1 n3 r2 n4 n5 n6))))

def bondstorelaw08_CrownCrash (cs1 : List Value) (n1 : Int) (n2 : Int) (n3 : Int) (n4 : Int) (n5 : Int) (n6 : Int) (K : VK) : WK :=
mk cs1 (fun r1 =>
bondstorelaw08_alive (xB fun b1 =>
br (!b1) (
K (.bool false)) (
ld ((⟨r1, 0, none⟩ : Addr).add 0) (xI .i64 fun n7 =>
ld ((⟨r1, 0, none⟩ : Addr).add 1) (xI .i64 fun n8 =>
chk (1 = 1 ∧ (1 = 1 ∧ (1 = 1 ∧ (1 = 1 ∧ True)))) (
mk [.int .i64 0, .int .i64 0, .int .i64 0, .int .i64 0] (fun r2 =>
chk (4 = 4) (stN (⟨r2, 0, none⟩ : Addr) [.int .i64 (IntKind.i64.wrap (n7 + 1)), .int .i64 n8, .int .i64 n1, .int .i64 n2] (
ldN (⟨r1, 0, none⟩ : Addr) 4 (fun cs10 =>
bondstorelaw08_good cs10 (xB fun b6 =>
br (!b6) (
bondstorelaw08_CrownCrash.j1 K r1 n3 r2 n4 n5 n6 true) (
ldN (⟨r2, 0, none⟩ : Addr) 4 (fun cs11 =>
bondstorelaw08_good cs11 (xB fun b7 =>
br (!b7) (
bondstorelaw08_CrownCrash.j1 K r1 n3 r2 n4 n5 n6 true) (
bondstorelaw08_CrownCrash.j1 K r1 n3 r2 n4 n5 n6 (decide (n3 < 0)))))))))))))))))

def bondstorelaw08_CrownCrash.u : WP := fun args K => match args with | [.agg ⟨cs1⟩, .int .i64 n1, .int .i64 n2, .int .i64 n3, .int .u64 n4, .int .i64 n5, .int .i64 n6] => bondstorelaw08_CrownCrash cs1 n1 n2 n3 n4 n5 n6 K | _ => no

def journal_places (p1 : Option Addr) (n1 : Int) (n2 : Int) (K : VK) : WK :=
br (decide (n1 ≥ 0)) (
br (decide (n1 < n2)) (
platter_Disk_Sectors p1 (xI .i64 fun n3 =>
K (.bool (decide (n2 ≤ n3))))) (
K (.bool false))) (
K (.bool false))

def journal_places.u : WP := fun args K => match args with | [.pointer p1, .int .i64 n1, .int .i64 n2] => journal_places p1 n1 n2 K | _ => no

def tape_Reader_Torn (p1 : Option Addr) (K : VK) : WK :=
br (!(p1.isNone)) (
nn p1 (fun a1 =>
ld (a1.add 1) (xB fun b1 =>
K (.bool b1)))) (
K (.bool false))

def tape_Reader_Torn.u : WP := fun args K => match args with | [.pointer p1] => tape_Reader_Torn p1 K | _ => no

def journal_next.j2 (K : VK) (r1 : Nat) (p1 : Option Addr) (n1 : Int) (n2 : Int) (n6 : Int) (b3 : Bool) : WK :=
br b3 (
K (.tuple ⟨[.string .empty, .int .i64 0, .bool false]⟩)) (
ld ((⟨r1, 0, none⟩ : Addr).add 0) (xI .i64 fun n7 =>
stamp_Take p1 n1 n2 n7 (IntKind.i64.wrap (12 + n6)) (x2 fun v5 v6 => (xS fun s3 =>
(xB fun b4 =>
br (!b4) (
K (.tuple ⟨[.string .empty, .int .i64 0, .bool false]⟩)) (
tick (
slStr s3 (some 12) none (fun s4 =>
stamp_Count (IntKind.i64.wrap (12 + n6)) (xI .i64 fun n8 =>
K (.tuple ⟨[.string s4, .int .i64 (IntKind.i64.wrap (n1 + n8)), .bool true]⟩)))))) v6) v5)))

def journal_next.j1 (K : VK) (p2 : Option Addr) (r1 : Nat) (p1 : Option Addr) (n1 : Int) (n2 : Int) (b2 : Bool) : WK :=
br b2 (
K (.tuple ⟨[.string .empty, .int .i64 0, .bool false]⟩)) (
tape_Reader_Int p2 4 (xI .i64 fun n6 =>
tape_Reader_Torn p2 (xB fun b5 =>
br b5 (
journal_next.j2 K r1 p1 n1 n2 n6 true) (
journal_next.j2 K r1 p1 n1 n2 n6 (decide (n6 > 32768))))))

def journal_next (p1 : Option Addr) (n1 : Int) (n2 : Int) (n3 : Int) (K : VK) : WK :=
br (decide (n1 ≥ n2)) (
K (.tuple ⟨[.string .empty, .int .i64 0, .bool false]⟩)) (
platter_Disk_Read p1 n1 (x2 fun v1 v2 => (xS fun s1 =>
(xI .i64 fun n4 =>
stamp_Read s1 (x2 fun v3 v4 => (xA 3 fun cs1 =>
(xB fun b1 =>
mk [.int .i64 0, .int .i64 0, .string .empty] (fun r1 =>
chk (cs1.length = 3) (stN (⟨r1, 0, none⟩ : Addr) cs1 (
ld ((⟨r1, 0, none⟩ : Addr).add 2) (xS fun s2 =>
tape_Read s2 (xP fun p2 =>
tape_Reader_Int p2 8 (xI .i64 fun n5 =>
br (!b1) (
journal_next.j1 K p2 r1 p1 n1 n2 true) (
ld ((⟨r1, 0, none⟩ : Addr).add 1) (xI .i64 fun n9 =>
br (n9 != 0) (
journal_next.j1 K p2 r1 p1 n1 n2 true) (
journal_next.j1 K p2 r1 p1 n1 n2 (n5 != n3))))))))))) v4) v3)) v2) v1))

def journal_next.u : WP := fun args K => match args with | [.pointer p1, .int .i64 n1, .int .i64 n2, .int .i64 n3] => journal_next p1 n1 n2 n3 K | _ => no

def journal_Open.j1 (K : VK) (p1 : Option Addr) (n1 : Int) (n2 : Int) (n3 : Int) (b1 : Bool) : WK :=
br b1 (
K (.tuple ⟨[.pointer none, .slice none 0 0, .int .i64 1]⟩)) (
chk (1 = 1 ∧ (1 = 1 ∧ (1 = 1 ∧ (1 = 1 ∧ (1 = 1 ∧ True))))) (
mk [.pointer p1, .int .i64 n1, .int .i64 n2, .int .i64 n1, .int .i64 n3, .bool false] (fun r1 =>
(fun w1 => ∃ (I1 : List Value → World → Prop) (μ1 : List Value → World → Nat), I1 [.pointer none, .slice none 0 0, .int .i64 0, .pointer (some (⟨r1, 0, none⟩ : Addr)), .slice none 0 0] w1 ∧
∀ (p2 : Option Addr) (sb1 : Option Addr) (sn1 : Nat) (sc1 : Nat) (n4 : Int) (a1 : Addr) (sb2 : Option Addr) (sn2 : Nat) (sc2 : Nat) (w2 : World), I1 [.pointer p2, .slice sb1 sn1 sc1, .int .i64 n4, .pointer (some a1), .slice sb2 sn2 sc2] w2 → (
tick (
ld (a1.add 3) (xI .i64 fun n5 =>
ld (a1.add 4) (xI .i64 fun n6 =>
journal_next p1 n5 n2 (IntKind.i64.wrap (n6 + 1)) (x3 fun v1 v2 v3 => (xS fun s1 =>
(xI .i64 fun n7 =>
(xB fun b2 =>
kp (a1.add 4) [.int .i64 n6] (
br (!b2) (
K (.tuple ⟨[.pointer (some a1), .slice sb2 sn2 sc2, .int .i64 0]⟩)) (
chk (1 = 1 ∧ True) (mk [.string s1] (fun r2 =>
appSl 1 16 [.string .empty] sb2 sn2 sc2 (some ⟨r2, 0, none⟩) 1 (fun sb3 sn3 sc3 =>
ld (a1.add 4) (xI .i64 fun n8 =>
st (a1.add 3) (.int .i64 n7) (
st (a1.add 4) (.int .i64 (IntKind.i64.wrap (n8 + 1))) (
(fun w3 => I1 [.pointer p2, .slice sb1 sn1 sc1, .int .i64 n4, .pointer (some a1), .slice sb3 sn3 sc3] w3 ∧ μ1 [.pointer p2, .slice sb1 sn1 sc1, .int .i64 n4, .pointer (some a1), .slice sb3 sn3 sc3] w3 < μ1 [.pointer p2, .slice sb1 sn1 sc1, .int .i64 n4, .pointer (some a1), .slice sb2 sn2 sc2] w2)))))))))) v3) v2) v1))))) w2))))

def journal_Open (p1 : Option Addr) (n1 : Int) (n2 : Int) (n3 : Int) (K : VK) : WK :=
br (p1.isNone) (
K (.tuple ⟨[.pointer none, .slice none 0 0, .int .i64 2]⟩)) (
journal_places p1 n1 n2 (xB fun b3 =>
br (!b3) (
journal_Open.j1 K p1 n1 n2 n3 true) (
br (decide (n3 < 0)) (
journal_Open.j1 K p1 n1 n2 n3 true) (
journal_Open.j1 K p1 n1 n2 n3 (decide (n3 > 1152921504606846976))))))

def journal_Open.u : WP := fun args K => match args with | [.pointer p1, .int .i64 n1, .int .i64 n2, .int .i64 n3] => journal_Open p1 n1 n2 n3 K | _ => no

def journal_Journal_Room (p1 : Option Addr) (n1 : Int) (K : VK) : WK :=
tick (
br (!(p1.isNone)) (
br (decide (n1 ≥ 0)) (
br (decide (n1 ≤ 32768)) (
nn p1 (fun a1 =>
ld (a1.add 2) (xI .i64 fun n2 =>
nn p1 (fun a2 =>
ld (a2.add 3) (xI .i64 fun n3 =>
stamp_Count (IntKind.i64.wrap (12 + n1)) (xI .i64 fun n4 =>
kp (a2.add 3) [.int .i64 n3] (
kp (a1.add 2) [.int .i64 n2] (
K (.bool (decide (n4 ≤ (IntKind.i64.wrap (n2 - n3))))))))))))) (
K (.bool false))) (
K (.bool false))) (
K (.bool false)))

def journal_Journal_Room.u : WP := fun args K => match args with | [.pointer p1, .int .i64 n1] => journal_Journal_Room p1 n1 K | _ => no

def journal_frame (n1 : Int) (s1 : ByteArray) (K : VK) : WK :=
chk True (
mk [.slice none 0 0] (fun r1 =>
tape_Writer_Int (some (⟨r1, 0, none⟩ : Addr)) 8 n1 (x0
(tape_Writer_Int (some (⟨r1, 0, none⟩ : Addr)) 4 (s1.size : Int) (x0
(tape_Writer_Raw (some (⟨r1, 0, none⟩ : Addr)) s1 (x0
(tape_Writer_String (some (⟨r1, 0, none⟩ : Addr)) (xS fun s2 =>
K (.string s2))))))))))

def journal_frame.u : WP := fun args K => match args with | [.int .i64 n1, .string s1] => journal_frame n1 s1 K | _ => no

def journal_Journal_Add.j3 (K : VK) (p1 : Option Addr) (s1 : ByteArray) (n6 : Int) : WK :=
br (n6 != 0) (
nn p1 (fun a6 =>
st (a6.add 5) (.bool true) (
K (.int .i64 n6)))) (
tick (
nn p1 (fun a7 =>
ld (a7.add 3) (xI .i64 fun n7 =>
stamp_Count (IntKind.i64.wrap (12 + (s1.size : Int))) (xI .i64 fun n8 =>
kp (a7.add 3) [.int .i64 n7] (
nn p1 (fun a8 =>
st (a8.add 3) (.int .i64 (IntKind.i64.wrap (n7 + n8))) (
nn p1 (fun a9 =>
ld (a9.add 4) (xI .i64 fun n9 =>
nn p1 (fun a10 =>
st (a10.add 4) (.int .i64 (IntKind.i64.wrap (n9 + 1))) (
K (.int .i64 0)))))))))))))

def journal_Journal_Add.j2 (K : VK) (p1 : Option Addr) (s1 : ByteArray) (n1 : Int) (b3 : Bool) : WK :=
br b3 (
K (.int .i64 6)) (
tick (
nn p1 (fun a2 =>
ld (a2.add 0) (xP fun p2 =>
nn p1 (fun a3 =>
ld (a3.add 3) (xI .i64 fun n2 =>
nn p1 (fun a4 =>
ld (a4.add 2) (xI .i64 fun n3 =>
nn p1 (fun a5 =>
ld (a5.add 4) (xI .i64 fun n4 =>
journal_frame (IntKind.i64.wrap (n4 + 1)) s1 (xS fun s2 =>
kp (a5.add 4) [.int .i64 n4] (
kp (a4.add 2) [.int .i64 n3] (
kp (a3.add 3) [.int .i64 n2] (
kp (a2.add 0) [.pointer p2] (
stamp_Lay p2 n2 n3 n1 s2 (xI .i64 fun n5 =>
kp (a5.add 4) [.int .i64 n4] (
br (n5 == 0) (
nn p1 (fun a11 =>
ld (a11.add 0) (xP fun p3 =>
platter_Disk_Sync p3 (xI .i64 fun n10 =>
journal_Journal_Add.j3 K p1 s1 n10)))) (
journal_Journal_Add.j3 K p1 s1 n5))))))))))))))))))

def journal_Journal_Add.j1 (K : VK) (p1 : Option Addr) (s1 : ByteArray) (n1 : Int) (b2 : Bool) : WK :=
br b2 (
K (.int .i64 1)) (
journal_Journal_Room p1 (s1.size : Int) (xB fun b4 =>
br (!b4) (
journal_Journal_Add.j2 K p1 s1 n1 true) (
nn p1 (fun a12 =>
ld (a12.add 4) (xI .i64 fun n11 =>
journal_Journal_Add.j2 K p1 s1 n1 (decide (n11 ≥ 1152921504606846976)))))))

def journal_Journal_Add (p1 : Option Addr) (n1 : Int) (s1 : ByteArray) (K : VK) : WK :=
br (p1.isNone) (
K (.int .i64 2)) (
nn p1 (fun a1 =>
ld (a1.add 5) (xB fun b1 =>
br b1 (
K (.int .i64 9)) (
br (decide (n1 < 1)) (
journal_Journal_Add.j1 K p1 s1 n1 true) (
journal_Journal_Add.j1 K p1 s1 n1 (decide (n1 > 1152921504606846976)))))))

def journal_Journal_Add.u : WP := fun args K => match args with | [.pointer p1, .int .i64 n1, .string s1] => journal_Journal_Add p1 n1 s1 K | _ => no

def journal_Journal_Seq (p1 : Option Addr) (K : VK) : WK :=
br (p1.isNone) (
K (.int .i64 0)) (
nn p1 (fun a1 =>
ld (a1.add 4) (xI .i64 fun n1 =>
K (.int .i64 n1))))

def journal_Journal_Seq.u : WP := fun args K => match args with | [.pointer p1] => journal_Journal_Seq p1 K | _ => no

def bondstorelaw06_alive.j1 (K : VK) (p1 : Option Addr) (b1 : Bool) : WK :=
br b1 (
K (.bool false)) (
journal_Open p1 2 8 0 (x3 fun v4 v5 v6 => (xP fun p3 =>
(xL fun sb2 sn2 sc2 =>
(xI .i64 fun n2 =>
br (n2 == 0) (
br ((sn2 : Int) == 1) (
ixs sb2 sn2 0 1 (fun a1 =>
ld a1 (xS fun s1 =>
K (.bool (strEq s1 (⟨#[97]⟩ : ByteArray)))))) (
K (.bool false))) (
K (.bool false))) v6) v5) v4))

def bondstorelaw06_alive  (K : VK) : WK :=
platter_New 8 (xP fun p1 =>
journal_Open p1 2 8 0 (x3 fun v1 v2 v3 => (xP fun p2 =>
(xL fun sb1 sn1 sc1 =>
(xI .i64 fun n1 =>
br (n1 != 0) (
bondstorelaw06_alive.j1 K p1 true) (
br ((sn1 : Int) != 0) (
bondstorelaw06_alive.j1 K p1 true) (
journal_Journal_Add p2 1 (⟨#[97]⟩ : ByteArray) (xI .i64 fun n3 =>
br (n3 != 0) (
bondstorelaw06_alive.j1 K p1 true) (
journal_Journal_Seq p2 (xI .i64 fun n4 =>
bondstorelaw06_alive.j1 K p1 (n4 != 1))))))) v3) v2) v1))

def bondstorelaw06_alive.u : WP := fun args K => match args with | [] => bondstorelaw06_alive  K | _ => no

def journal_Journal_At (p1 : Option Addr) (K : VK) : WK :=
br (p1.isNone) (
K (.int .i64 0)) (
nn p1 (fun a1 =>
ld (a1.add 3) (xI .i64 fun n1 =>
K (.int .i64 n1))))

def journal_Journal_At.u : WP := fun args K => match args with | [.pointer p1] => journal_Journal_At p1 K | _ => no

def journal_Journal_Sick (p1 : Option Addr) (K : VK) : WK :=
br (!(p1.isNone)) (
nn p1 (fun a1 =>
ld (a1.add 5) (xB fun b1 =>
K (.bool b1)))) (
K (.bool false))

def journal_Journal_Sick.u : WP := fun args K => match args with | [.pointer p1] => journal_Journal_Sick p1 K | _ => no

def bondstorelaw06_JournalRoom.j1 (K : VK) (n1 : Int) (n2 : Int) (b2 : Bool) (sb1 : Option Addr) (sn1 : Nat) (sc1 : Nat) (b3 : Bool) : WK :=
br b3 (
K (.bool true)) (
platter_New 30 (xP fun p1 =>
journal_Open p1 n1 n2 0 (x3 fun v1 v2 v3 => (xP fun p2 =>
(xL fun sb3 sn3 sc3 =>
(xI .i64 fun n6 =>
(fun w4 => ∃ (I2 : List Value → World → Prop) (μ2 : List Value → World → Nat), I2 [.bool b2, .pointer p1, .pointer p2, .slice sb1 sn1 sc1, .int .i64 (sn1 : Int), .int .i64 0] w4 ∧
∀ (b4 : Bool) (p3 : Option Addr) (p4 : Option Addr) (sb4 : Option Addr) (sn4 : Nat) (sc4 : Nat) (n7 : Int) (n8 : Int) (w5 : World), I2 [.bool b4, .pointer p3, .pointer p4, .slice sb4 sn4 sc4, .int .i64 n7, .int .i64 n8] w5 → (
br (decide (n8 < n7)) (
ixs sb4 sn4 n8 1 (fun a2 =>
ld a2 (xS fun s2 =>
journal_Journal_Room p4 (s2.size : Int) (xB fun b5 =>
journal_Journal_Add p4 (IntKind.i64.wrap (n8 + 1)) s2 (xI .i64 fun n9 =>
br (!((n9 == 0) == b5)) (
K (.bool false)) (
br (!b5) (
br (n9 != 6) (
K (.bool false)) (
(fun w6 => I2 [.bool b4, .pointer p3, .pointer p4, .slice sb4 sn4 sc4, .int .i64 n7, .int .i64 (IntKind.i64.wrap (n8 + 1))] w6 ∧ μ2 [.bool b4, .pointer p3, .pointer p4, .slice sb4 sn4 sc4, .int .i64 n7, .int .i64 (IntKind.i64.wrap (n8 + 1))] w6 < μ2 [.bool b4, .pointer p3, .pointer p4, .slice sb4 sn4 sc4, .int .i64 n7, .int .i64 n8] w5))) (
(fun w7 => I2 [.bool b4, .pointer p3, .pointer p4, .slice sb4 sn4 sc4, .int .i64 n7, .int .i64 (IntKind.i64.wrap (n8 + 1))] w7 ∧ μ2 [.bool b4, .pointer p3, .pointer p4, .slice sb4 sn4 sc4, .int .i64 n7, .int .i64 (IntKind.i64.wrap (n8 + 1))] w7 < μ2 [.bool b4, .pointer p3, .pointer p4, .slice sb4 sn4 sc4, .int .i64 n7, .int .i64 n8] w5)))))))) (
(fun w8 => ∃ (I3 : List Value → World → Prop) (μ3 : List Value → World → Nat), I3 [.bool b4, .pointer p3, .pointer p4, .int .i64 0] w8 ∧
∀ (b6 : Bool) (p5 : Option Addr) (p6 : Option Addr) (n10 : Int) (w9 : World), I3 [.bool b6, .pointer p5, .pointer p6, .int .i64 n10] w9 → (
br (decide (n10 < 30)) (
platter_Disk_Read p5 n10 (x2 fun v4 v5 => (xS fun s3 =>
(xI .i64 fun n11 =>
stamp_Read s3 (x2 fun v6 v7 => (xA 3 fun cs1 =>
(xB fun b7 =>
mk [.int .i64 0, .int .i64 0, .string .empty] (fun r1 =>
chk (cs1.length = 3) (stN (⟨r1, 0, none⟩ : Addr) cs1 (
br b7 (
br (decide (n10 < n1)) (
K (.bool false)) (
br (decide (n10 ≥ n2)) (
K (.bool false)) (
(fun w10 => I3 [.bool b6, .pointer p5, .pointer p6, .int .i64 (IntKind.i64.wrap (n10 + 1))] w10 ∧ μ3 [.bool b6, .pointer p5, .pointer p6, .int .i64 (IntKind.i64.wrap (n10 + 1))] w10 < μ3 [.bool b6, .pointer p5, .pointer p6, .int .i64 n10] w9)))) (
(fun w11 => I3 [.bool b6, .pointer p5, .pointer p6, .int .i64 (IntKind.i64.wrap (n10 + 1))] w11 ∧ μ3 [.bool b6, .pointer p5, .pointer p6, .int .i64 (IntKind.i64.wrap (n10 + 1))] w11 < μ3 [.bool b6, .pointer p5, .pointer p6, .int .i64 n10] w9)))))) v7) v6)) v5) v4)) (
journal_Journal_At p6 (xI .i64 fun n12 =>
br (decide (n12 ≤ n2)) (
journal_Journal_Sick p6 (xB fun b8 =>
K (.bool (!b8)))) (
K (.bool false))))) w9))) w5)) v3) v2) v1)))

def bondstorelaw06_JournalRoom (sb1 : Option Addr) (sn1 : Nat) (sc1 : Nat) (n1 : Int) (n2 : Int) (K : VK) : WK :=
bondstorelaw06_alive (xB fun b1 =>
br (!b1) (
K (.bool false)) (
(fun w1 => ∃ (I1 : List Value → World → Prop) (μ1 : List Value → World → Nat), I1 [.bool false, .int .i64 0, .slice sb1 sn1 sc1, .int .i64 (sn1 : Int), .int .i64 0] w1 ∧
∀ (b2 : Bool) (n3 : Int) (sb2 : Option Addr) (sn2 : Nat) (sc2 : Nat) (n4 : Int) (n5 : Int) (w2 : World), I1 [.bool b2, .int .i64 n3, .slice sb2 sn2 sc2, .int .i64 n4, .int .i64 n5] w2 → (
br (decide (n5 < n4)) (
ixs sb2 sn2 n5 1 (fun a1 =>
ld a1 (xS fun s1 =>
(fun w3 => I1 [.bool b2, .int .i64 (IntKind.i64.wrap (n3 + (s1.size : Int))), .slice sb2 sn2 sc2, .int .i64 n4, .int .i64 (IntKind.i64.wrap (n5 + 1))] w3 ∧ μ1 [.bool b2, .int .i64 (IntKind.i64.wrap (n3 + (s1.size : Int))), .slice sb2 sn2 sc2, .int .i64 n4, .int .i64 (IntKind.i64.wrap (n5 + 1))] w3 < μ1 [.bool b2, .int .i64 n3, .slice sb2 sn2 sc2, .int .i64 n4, .int .i64 n5] w2)))) (
br (decide ((sn1 : Int) > 20)) (
bondstorelaw06_JournalRoom.j1 K n1 n2 b2 sb1 sn1 sc1 true) (
br (decide (n3 > 4096)) (
bondstorelaw06_JournalRoom.j1 K n1 n2 b2 sb1 sn1 sc1 true) (
br (decide (n1 < 0)) (
bondstorelaw06_JournalRoom.j1 K n1 n2 b2 sb1 sn1 sc1 true) (
br (decide (n1 ≥ n2)) (
bondstorelaw06_JournalRoom.j1 K n1 n2 b2 sb1 sn1 sc1 true) (
bondstorelaw06_JournalRoom.j1 K n1 n2 b2 sb1 sn1 sc1 (decide (n2 > 30)))))))) w2)))

def bondstorelaw06_JournalRoom.u : WP := fun args K => match args with | [.slice sb1 sn1 sc1, .int .i64 n1, .int .i64 n2] => bondstorelaw06_JournalRoom sb1 sn1 sc1 n1 n2 K | _ => no

def bondstoreref06_Frame (n1 : Int) (s1 : ByteArray) (K : VK) : WK :=
bondstoreref03_Int 8 n1 (xS fun s2 =>
bondstoreref03_Int 4 (s1.size : Int) (xS fun s3 =>
chk (((s2.size + s3.size : Nat) : Int) ≤ 9223372036854775807) (
chk ((((s2 ++ s3).size + s1.size : Nat) : Int) ≤ 9223372036854775807) (
K (.string ((s2 ++ s3) ++ s1))))))

def bondstoreref06_Frame.u : WP := fun args K => match args with | [.int .i64 n1, .string s1] => bondstoreref06_Frame n1 s1 K | _ => no

def bondstoreref06_Sectors (n1 : Int) (n2 : Int) (s1 : ByteArray) (K : VK) : WK :=
bondstoreref06_Frame n1 s1 (xS fun s2 =>
(fun w1 => ∃ (I1 : List Value → World → Prop) (μ1 : List Value → World → Nat), I1 [.slice none 0 0, .string s2, .slice none 0 0, .int .i64 0] w1 ∧
∀ (sb1 : Option Addr) (sn1 : Nat) (sc1 : Nat) (s3 : ByteArray) (sb2 : Option Addr) (sn2 : Nat) (sc2 : Nat) (n3 : Int) (w2 : World), I1 [.slice sb1 sn1 sc1, .string s3, .slice sb2 sn2 sc2, .int .i64 n3] w2 → (
bondstoreref05_Count (s3.size : Int) (xI .i64 fun n4 =>
br (decide (n3 < n4)) (
bondstoreref05_Part s3 n3 (xS fun s4 =>
bondstoreref05_Bytes n2 n3 s4 (xS fun s5 =>
chk (1 = 1 ∧ True) (mk [.string s5] (fun r1 =>
appSl 1 16 [.string .empty] sb2 sn2 sc2 (some ⟨r1, 0, none⟩) 1 (fun sb3 sn3 sc3 =>
(fun w3 => I1 [.slice sb1 sn1 sc1, .string s3, .slice sb3 sn3 sc3, .int .i64 (IntKind.i64.wrap (n3 + 1))] w3 ∧ μ1 [.slice sb1 sn1 sc1, .string s3, .slice sb3 sn3 sc3, .int .i64 (IntKind.i64.wrap (n3 + 1))] w3 < μ1 [.slice sb1 sn1 sc1, .string s3, .slice sb2 sn2 sc2, .int .i64 n3] w2))))))) (
K (.slice sb2 sn2 sc2)))) w2))

def bondstoreref06_Sectors.u : WP := fun args K => match args with | [.int .i64 n1, .int .i64 n2, .string s1] => bondstoreref06_Sectors n1 n2 s1 K | _ => no

def journal_Journal_Restart (p1 : Option Addr) (K : VK) : WK :=
br (!(p1.isNone)) (
nn p1 (fun a1 =>
ld (a1.add 1) (xI .i64 fun n1 =>
nn p1 (fun a2 =>
st (a2.add 3) (.int .i64 n1) (
K (.tuple ⟨[]⟩)))))) (
K (.tuple ⟨[]⟩))

def journal_Journal_Restart.u : WP := fun args K => match args with | [.pointer p1] => journal_Journal_Restart p1 K | _ => no

def bondstorelaw06_JournalRaw.j2 (K : VK) (b4 : Bool) : WK :=
K (.bool b4)

def bondstorelaw06_JournalRaw.j3 (K : VK) (b2 : Bool) (p2 : Option Addr) (p3 : Option Addr) (n1 : Int) (sb3 : Option Addr) (sn3 : Nat) (sc3 : Nat) (n3 : Int) (n2 : Int) (b5 : Bool) : WK :=
br b5 (
K (.bool false)) (
(fun w6 => ∃ (I2 : List Value → World → Prop) (μ2 : List Value → World → Nat), I2 [.bool b2, .pointer p2, .pointer p3, .int .i64 n1, .slice sb3 sn3 sc3, .int .i64 (sn3 : Int), .int .i64 0] w6 ∧
∀ (b6 : Bool) (p4 : Option Addr) (p5 : Option Addr) (n9 : Int) (sb4 : Option Addr) (sn4 : Nat) (sc4 : Nat) (n10 : Int) (n11 : Int) (w7 : World), I2 [.bool b6, .pointer p4, .pointer p5, .int .i64 n9, .slice sb4 sn4 sc4, .int .i64 n10, .int .i64 n11] w7 → (
br (decide (n11 < n10)) (
ixs sb4 sn4 n11 1 (fun a2 =>
ld a2 (xS fun s2 =>
platter_Disk_Read p4 n9 (x2 fun v4 v5 => (xS fun s3 =>
(xI .i64 fun n12 =>
stamp_Read s3 (x2 fun v6 v7 => (xA 3 fun cs1 =>
(xB fun b7 =>
mk [.int .i64 0, .int .i64 0, .string .empty] (fun r1 =>
chk (cs1.length = 3) (stN (⟨r1, 0, none⟩ : Addr) cs1 (
br (!b7) (
K (.bool false)) (
ld ((⟨r1, 0, none⟩ : Addr).add 0) (xI .i64 fun n13 =>
bondstoreref06_Sectors (IntKind.i64.wrap ((IntKind.i64.wrap (n3 + 1)) + n11)) n13 s2 (xL fun sb5 sn5 sc5 =>
(fun w8 => ∃ (I3 : List Value → World → Prop) (μ3 : List Value → World → Nat), I3 [.bool b6, .pointer p4, .pointer p5, .int .i64 n9, .int .i64 n11, .string s2, .string s3, .pointer (some (⟨r1, 0, none⟩ : Addr)), .bool b7, .slice sb4 sn4 sc4, .int .i64 n10, .int .i64 n11, .bool (decide (n11 < n10)), .int .i64 n11, .pointer (some a2), .string s2, .pointer p4, .int .i64 n9, .string s3, .int .i64 n12, .string s3, .agg ⟨cs1⟩, .bool b7, .bool b7, .bool (!b7), .int .i64 n3, .int .i64 (IntKind.i64.wrap (n3 + 1)), .int .i64 n11, .int .i64 (IntKind.i64.wrap ((IntKind.i64.wrap (n3 + 1)) + n11)), .pointer (some ((⟨r1, 0, none⟩ : Addr).add 0)), .int .i64 n13, .string s2, .slice sb5 sn5 sc5, .int .i64 (sn5 : Int), .int .i64 0] w8 ∧
∀ (b8 : Bool) (p6 : Option Addr) (p7 : Option Addr) (n14 : Int) (n15 : Int) (s4 : ByteArray) (s5 : ByteArray) (a3 : Addr) (b9 : Bool) (sb6 : Option Addr) (sn6 : Nat) (sc6 : Nat) (n16 : Int) (n17 : Int) (b10 : Bool) (n18 : Int) (a4 : Addr) (s6 : ByteArray) (p8 : Option Addr) (n19 : Int) (s7 : ByteArray) (n20 : Int) (s8 : ByteArray) (cs2 : List Value) (b11 : Bool) (b12 : Bool) (b13 : Bool) (n21 : Int) (n22 : Int) (n23 : Int) (n24 : Int) (a5 : Addr) (n25 : Int) (s9 : ByteArray) (sb7 : Option Addr) (sn7 : Nat) (sc7 : Nat) (n26 : Int) (n27 : Int) (w9 : World), I3 [.bool b8, .pointer p6, .pointer p7, .int .i64 n14, .int .i64 n15, .string s4, .string s5, .pointer (some a3), .bool b9, .slice sb6 sn6 sc6, .int .i64 n16, .int .i64 n17, .bool b10, .int .i64 n18, .pointer (some a4), .string s6, .pointer p8, .int .i64 n19, .string s7, .int .i64 n20, .string s8, .agg ⟨cs2⟩, .bool b11, .bool b12, .bool b13, .int .i64 n21, .int .i64 n22, .int .i64 n23, .int .i64 n24, .pointer (some a5), .int .i64 n25, .string s9, .slice sb7 sn7 sc7, .int .i64 n26, .int .i64 n27] w9 → (
br (decide (n27 < n26)) (
ixs sb7 sn7 n27 1 (fun a6 =>
ld a6 (xS fun s10 =>
platter_Disk_Read p6 (IntKind.i64.wrap (n14 + n27)) (x2 fun v8 v9 => (xS fun s11 =>
(xI .i64 fun n28 =>
br (!(strEq s11 s10)) (
K (.bool false)) (
(fun w10 => I3 [.bool b8, .pointer p6, .pointer p7, .int .i64 n14, .int .i64 n15, .string s4, .string s5, .pointer (some a3), .bool b9, .slice sb6 sn6 sc6, .int .i64 n16, .int .i64 n17, .bool b10, .int .i64 n18, .pointer (some a4), .string s6, .pointer p8, .int .i64 n19, .string s7, .int .i64 n20, .string s8, .agg ⟨cs2⟩, .bool b11, .bool b12, .bool b13, .int .i64 n21, .int .i64 n22, .int .i64 n23, .int .i64 n24, .pointer (some a5), .int .i64 n25, .string s9, .slice sb7 sn7 sc7, .int .i64 n26, .int .i64 (IntKind.i64.wrap (n27 + 1))] w10 ∧ μ3 [.bool b8, .pointer p6, .pointer p7, .int .i64 n14, .int .i64 n15, .string s4, .string s5, .pointer (some a3), .bool b9, .slice sb6 sn6 sc6, .int .i64 n16, .int .i64 n17, .bool b10, .int .i64 n18, .pointer (some a4), .string s6, .pointer p8, .int .i64 n19, .string s7, .int .i64 n20, .string s8, .agg ⟨cs2⟩, .bool b11, .bool b12, .bool b13, .int .i64 n21, .int .i64 n22, .int .i64 n23, .int .i64 n24, .pointer (some a5), .int .i64 n25, .string s9, .slice sb7 sn7 sc7, .int .i64 n26, .int .i64 (IntKind.i64.wrap (n27 + 1))] w10 < μ3 [.bool b8, .pointer p6, .pointer p7, .int .i64 n14, .int .i64 n15, .string s4, .string s5, .pointer (some a3), .bool b9, .slice sb6 sn6 sc6, .int .i64 n16, .int .i64 n17, .bool b10, .int .i64 n18, .pointer (some a4), .string s6, .pointer p8, .int .i64 n19, .string s7, .int .i64 n20, .string s8, .agg ⟨cs2⟩, .bool b11, .bool b12, .bool b13, .int .i64 n21, .int .i64 n22, .int .i64 n23, .int .i64 n24, .pointer (some a5), .int .i64 n25, .string s9, .slice sb7 sn7 sc7, .int .i64 n26, .int .i64 n27] w9))) v9) v8)))) (
bondstoreref05_Count (IntKind.i64.wrap (12 + (s4.size : Int))) (xI .i64 fun n29 =>
(fun w11 => I2 [.bool b8, .pointer p6, .pointer p7, .int .i64 (IntKind.i64.wrap (n14 + n29)), .slice sb6 sn6 sc6, .int .i64 n16, .int .i64 (IntKind.i64.wrap (n17 + 1))] w11 ∧ μ2 [.bool b8, .pointer p6, .pointer p7, .int .i64 (IntKind.i64.wrap (n14 + n29)), .slice sb6 sn6 sc6, .int .i64 n16, .int .i64 (IntKind.i64.wrap (n17 + 1))] w11 < μ2 [.bool b6, .pointer p4, .pointer p5, .int .i64 n9, .slice sb4 sn4 sc4, .int .i64 n10, .int .i64 n11] w7)))) w9)))))))) v7) v6)) v5) v4)))) (
journal_Journal_Restart none (x0
(journal_Open none 0 1 0 (x3 fun v10 v11 v12 => (xP fun p9 =>
(xL fun sb8 sn8 sc8 =>
(xI .i64 fun n30 =>
journal_Journal_At p5 (xI .i64 fun n31 =>
br (n31 == n9) (
br (decide (n9 ≤ n2)) (
br (n30 == 2) (
journal_Journal_Add none 1 (⟨#[]⟩ : ByteArray) (xI .i64 fun n32 =>
br (n32 == 2) (
journal_Journal_Seq none (xI .i64 fun n33 =>
journal_Journal_At none (xI .i64 fun n34 =>
br ((IntKind.i64.wrap (n33 + n34)) == 0) (
journal_Journal_Sick none (xB fun b14 =>
br (!b14) (
journal_Journal_Room none 0 (xB fun b15 =>
K (.bool (!b15)))) (
K (.bool false)))) (
K (.bool false))))) (
K (.bool false)))) (
K (.bool false))) (
K (.bool false))) (
K (.bool false)))) v12) v11) v10))))) w7))

def bondstorelaw06_JournalRaw.j1 (K : VK) (n8 : Int) (p3 : Option Addr) (sn3 : Nat) (b2 : Bool) (p2 : Option Addr) (n1 : Int) (sb3 : Option Addr) (sc3 : Nat) (n3 : Int) (n2 : Int) (b3 : Bool) : WK :=
br b3 (
br (n8 == 1) (
br (p3.isNone) (
bondstorelaw06_JournalRaw.j2 K ((sn3 : Int) == 0)) (
bondstorelaw06_JournalRaw.j2 K false)) (
bondstorelaw06_JournalRaw.j2 K false)) (
br (n8 != 0) (
bondstorelaw06_JournalRaw.j3 K b2 p2 p3 n1 sb3 sn3 sc3 n3 n2 true) (
journal_Journal_Seq p3 (xI .i64 fun n35 =>
bondstorelaw06_JournalRaw.j3 K b2 p2 p3 n1 sb3 sn3 sc3 n3 n2 (n35 != (IntKind.i64.wrap (n3 + (sn3 : Int)))))))

def bondstorelaw06_JournalRaw (sb1 : Option Addr) (sn1 : Nat) (sc1 : Nat) (n1 : Int) (n2 : Int) (n3 : Int) (K : VK) : WK :=
bondstorelaw06_alive (xB fun b1 =>
br (!b1) (
K (.bool false)) (
platter_New 12 (xP fun p1 =>
(fun w1 => ∃ (I1 : List Value → World → Prop) (μ1 : List Value → World → Nat), I1 [.bool false, .pointer p1, .slice sb1 sn1 sc1, .int .i64 (sn1 : Int), .int .i64 0] w1 ∧
∀ (b2 : Bool) (p2 : Option Addr) (sb2 : Option Addr) (sn2 : Nat) (sc2 : Nat) (n4 : Int) (n5 : Int) (w2 : World), I1 [.bool b2, .pointer p2, .slice sb2 sn2 sc2, .int .i64 n4, .int .i64 n5] w2 → (
br (decide (n5 < n4)) (
ixs sb2 sn2 n5 1 (fun a1 =>
ld a1 (xS fun s1 =>
br (decide (n5 < 12)) (
br (decide ((s1.size : Int) ≤ 128)) (
platter_Disk_Write p2 n5 s1 (xI .i64 fun n6 =>
(fun w3 => I1 [.bool b2, .pointer p2, .slice sb2 sn2 sc2, .int .i64 n4, .int .i64 (IntKind.i64.wrap (n5 + 1))] w3 ∧ μ1 [.bool b2, .pointer p2, .slice sb2 sn2 sc2, .int .i64 n4, .int .i64 (IntKind.i64.wrap (n5 + 1))] w3 < μ1 [.bool b2, .pointer p2, .slice sb2 sn2 sc2, .int .i64 n4, .int .i64 n5] w2))) (
(fun w4 => I1 [.bool b2, .pointer p2, .slice sb2 sn2 sc2, .int .i64 n4, .int .i64 (IntKind.i64.wrap (n5 + 1))] w4 ∧ μ1 [.bool b2, .pointer p2, .slice sb2 sn2 sc2, .int .i64 n4, .int .i64 (IntKind.i64.wrap (n5 + 1))] w4 < μ1 [.bool b2, .pointer p2, .slice sb2 sn2 sc2, .int .i64 n4, .int .i64 n5] w2))) (
(fun w5 => I1 [.bool b2, .pointer p2, .slice sb2 sn2 sc2, .int .i64 n4, .int .i64 (IntKind.i64.wrap (n5 + 1))] w5 ∧ μ1 [.bool b2, .pointer p2, .slice sb2 sn2 sc2, .int .i64 n4, .int .i64 (IntKind.i64.wrap (n5 + 1))] w5 < μ1 [.bool b2, .pointer p2, .slice sb2 sn2 sc2, .int .i64 n4, .int .i64 n5] w2))))) (
platter_Disk_Sync p2 (xI .i64 fun n7 =>
journal_Open p2 n1 n2 n3 (x3 fun v1 v2 v3 => (xP fun p3 =>
(xL fun sb3 sn3 sc3 =>
(xI .i64 fun n8 =>
br (decide (n1 < 0)) (
bondstorelaw06_JournalRaw.j1 K n8 p3 sn3 b2 p2 n1 sb3 sc3 n3 n2 true) (
br (decide (n1 ≥ n2)) (
bondstorelaw06_JournalRaw.j1 K n8 p3 sn3 b2 p2 n1 sb3 sc3 n3 n2 true) (
br (decide (n2 > 12)) (
bondstorelaw06_JournalRaw.j1 K n8 p3 sn3 b2 p2 n1 sb3 sc3 n3 n2 true) (
br (decide (n3 < 0)) (
bondstorelaw06_JournalRaw.j1 K n8 p3 sn3 b2 p2 n1 sb3 sc3 n3 n2 true) (
bondstorelaw06_JournalRaw.j1 K n8 p3 sn3 b2 p2 n1 sb3 sc3 n3 n2 (decide (n3 > 1152921504606846976))))))) v3) v2) v1)))) w2))))

def bondstorelaw06_JournalRaw.u : WP := fun args K => match args with | [.slice sb1 sn1 sc1, .int .i64 n1, .int .i64 n2, .int .i64 n3] => bondstorelaw06_JournalRaw sb1 sn1 sc1 n1 n2 n3 K | _ => no

def bondstoreref06_Same (sb1 : Option Addr) (sn1 : Nat) (sc1 : Nat) (sb2 : Option Addr) (sn2 : Nat) (sc2 : Nat) (K : VK) : WK :=
br ((sn1 : Int) != (sn2 : Int)) (
K (.bool false)) (
(fun w1 => ∃ (I1 : List Value → World → Prop) (μ1 : List Value → World → Nat), I1 [.bool false, .int .i64 (sn1 : Int), .int .i64 0] w1 ∧
∀ (b1 : Bool) (n1 : Int) (n2 : Int) (w2 : World), I1 [.bool b1, .int .i64 n1, .int .i64 n2] w2 → (
br (decide (n2 < n1)) (
tick (
ixs sb1 sn1 n2 1 (fun a1 =>
ld a1 (xS fun s1 =>
ixs sb2 sn2 n2 1 (fun a2 =>
ld a2 (xS fun s2 =>
br (!(strEq s1 s2)) (
K (.bool false)) (
(fun w3 => I1 [.bool b1, .int .i64 n1, .int .i64 (IntKind.i64.wrap (n2 + 1))] w3 ∧ μ1 [.bool b1, .int .i64 n1, .int .i64 (IntKind.i64.wrap (n2 + 1))] w3 < μ1 [.bool b1, .int .i64 n1, .int .i64 n2] w2)))))))) (
K (.bool true))) w2))

def bondstoreref06_Same.u : WP := fun args K => match args with | [.slice sb1 sn1 sc1, .slice sb2 sn2 sc2] => bondstoreref06_Same sb1 sn1 sc1 sb2 sn2 sc2 K | _ => no

def bondstorelaw06_JournalFlying.j3 (K : VK) (sb1 : Option Addr) (sn1 : Nat) (s1 : ByteArray) (sb7 : Option Addr) (sn7 : Nat) (sc7 : Nat) (sc1 : Nat) (b7 : Bool) : WK :=
br b7 (
chk True (mk [] (fun r1 =>
appSl 1 16 [.string .empty] (some ⟨r1, 0, none⟩) 0 0 sb1 sn1 (fun sb8 sn8 sc8 =>
chk (1 = 1 ∧ True) (mk [.string s1] (fun r2 =>
appSl 1 16 [.string .empty] sb8 sn8 sc8 (some ⟨r2, 0, none⟩) 1 (fun sb9 sn9 sc9 =>
bondstoreref06_Same sb7 sn7 sc7 sb9 sn9 sc9 (xB fun b8 =>
K (.bool b8))))))))) (
bondstoreref06_Same sb7 sn7 sc7 sb1 sn1 sc1 (xB fun b9 =>
K (.bool b9)))

def bondstorelaw06_JournalFlying.j2 (K : VK) (b6 : Bool) (sb1 : Option Addr) (sn1 : Nat) (s1 : ByteArray) (sb7 : Option Addr) (sn7 : Nat) (sc7 : Nat) (sc1 : Nat) (n15 : Int) : WK :=
br b6 (
bondstorelaw06_JournalFlying.j3 K sb1 sn1 s1 sb7 sn7 sc7 sc1 (n15 != 6)) (
bondstorelaw06_JournalFlying.j3 K sb1 sn1 s1 sb7 sn7 sc7 sc1 false)

def bondstorelaw06_JournalFlying.j1 (K : VK) (b2 : Bool) (sb1 : Option Addr) (sn1 : Nat) (sc1 : Nat) (n1 : Int) (s1 : ByteArray) (n2 : Int) (n3 : Int) (n4 : Int) (b3 : Bool) : WK :=
br b3 (
K (.bool true)) (
platter_New 80 (xP fun p1 =>
journal_Open p1 0 80 0 (x3 fun v1 v2 v3 => (xP fun p2 =>
(xL fun sb3 sn3 sc3 =>
(xI .i64 fun n8 =>
(fun w4 => ∃ (I2 : List Value → World → Prop) (μ2 : List Value → World → Nat), I2 [.bool b2, .pointer p1, .pointer p2, .slice sb1 sn1 sc1, .int .i64 (sn1 : Int), .int .i64 0] w4 ∧
∀ (b4 : Bool) (p3 : Option Addr) (p4 : Option Addr) (sb4 : Option Addr) (sn4 : Nat) (sc4 : Nat) (n9 : Int) (n10 : Int) (w5 : World), I2 [.bool b4, .pointer p3, .pointer p4, .slice sb4 sn4 sc4, .int .i64 n9, .int .i64 n10] w5 → (
br (decide (n10 < n9)) (
ixs sb4 sn4 n10 1 (fun a2 =>
ld a2 (xS fun s3 =>
journal_Journal_Add p4 (IntKind.i64.wrap (n10 + 1)) s3 (xI .i64 fun n11 =>
br (n11 != 0) (
K (.bool true)) (
(fun w6 => I2 [.bool b4, .pointer p3, .pointer p4, .slice sb4 sn4 sc4, .int .i64 n9, .int .i64 (IntKind.i64.wrap (n10 + 1))] w6 ∧ μ2 [.bool b4, .pointer p3, .pointer p4, .slice sb4 sn4 sc4, .int .i64 n9, .int .i64 (IntKind.i64.wrap (n10 + 1))] w6 < μ2 [.bool b4, .pointer p3, .pointer p4, .slice sb4 sn4 sc4, .int .i64 n9, .int .i64 n10] w5)))))) (
journal_Journal_At p4 (xI .i64 fun n12 =>
platter_Disk_Arm p3 n1 (x0
(journal_Journal_Add p4 (IntKind.i64.wrap ((sn1 : Int) + 1)) s1 (xI .i64 fun n13 =>
platter_Disk_Crash p3 n2 n3 n4 (x0
(bondstoreref06_Sectors (IntKind.i64.wrap ((sn1 : Int) + 1)) (IntKind.i64.wrap ((sn1 : Int) + 1)) s1 (xL fun sb5 sn5 sc5 =>
(fun w7 => ∃ (I3 : List Value → World → Prop) (μ3 : List Value → World → Nat), I3 [.bool b4, .pointer p3, .int .i64 n12, .int .i64 n13, .bool true, .slice sb5 sn5 sc5, .int .i64 (sn5 : Int), .int .i64 0] w7 ∧
∀ (b5 : Bool) (p5 : Option Addr) (n14 : Int) (n15 : Int) (b6 : Bool) (sb6 : Option Addr) (sn6 : Nat) (sc6 : Nat) (n16 : Int) (n17 : Int) (w8 : World), I3 [.bool b5, .pointer p5, .int .i64 n14, .int .i64 n15, .bool b6, .slice sb6 sn6 sc6, .int .i64 n16, .int .i64 n17] w8 → (
br (decide (n17 < n16)) (
ixs sb6 sn6 n17 1 (fun a3 =>
ld a3 (xS fun s4 =>
platter_Disk_Read p5 (min2 (IntKind.i64.wrap (n14 + n17)) 79) (x2 fun v4 v5 => (xS fun s5 =>
(xI .i64 fun n18 =>
br b6 (
(fun w9 => I3 [.bool b5, .pointer p5, .int .i64 n14, .int .i64 n15, .bool (strEq s5 s4), .slice sb6 sn6 sc6, .int .i64 n16, .int .i64 (IntKind.i64.wrap (n17 + 1))] w9 ∧ μ3 [.bool b5, .pointer p5, .int .i64 n14, .int .i64 n15, .bool (strEq s5 s4), .slice sb6 sn6 sc6, .int .i64 n16, .int .i64 (IntKind.i64.wrap (n17 + 1))] w9 < μ3 [.bool b5, .pointer p5, .int .i64 n14, .int .i64 n15, .bool b6, .slice sb6 sn6 sc6, .int .i64 n16, .int .i64 n17] w8)) (
(fun w10 => I3 [.bool b5, .pointer p5, .int .i64 n14, .int .i64 n15, .bool false, .slice sb6 sn6 sc6, .int .i64 n16, .int .i64 (IntKind.i64.wrap (n17 + 1))] w10 ∧ μ3 [.bool b5, .pointer p5, .int .i64 n14, .int .i64 n15, .bool false, .slice sb6 sn6 sc6, .int .i64 n16, .int .i64 (IntKind.i64.wrap (n17 + 1))] w10 < μ3 [.bool b5, .pointer p5, .int .i64 n14, .int .i64 n15, .bool b6, .slice sb6 sn6 sc6, .int .i64 n16, .int .i64 n17] w8))) v5) v4)))) (
journal_Open p5 0 80 0 (x3 fun v6 v7 v8 => (xP fun p6 =>
(xL fun sb7 sn7 sc7 =>
(xI .i64 fun n19 =>
br (n19 != 0) (
K (.bool false)) (
br (n15 == 0) (
br (!b6) (
K (.bool false)) (
bondstorelaw06_JournalFlying.j2 K b6 sb1 sn1 s1 sb7 sn7 sc7 sc1 n15)) (
bondstorelaw06_JournalFlying.j2 K b6 sb1 sn1 s1 sb7 sn7 sc7 sc1 n15))) v8) v7) v6))) w8)))))))))) w5)) v3) v2) v1)))

def bondstorelaw06_JournalFlying (sb1 : Option Addr) (sn1 : Nat) (sc1 : Nat) (s1 : ByteArray) (n1 : Int) (n2 : Int) (n3 : Int) (n4 : Int) (K : VK) : WK :=
bondstorelaw06_alive (xB fun b1 =>
br (!b1) (
K (.bool false)) (
(fun w1 => ∃ (I1 : List Value → World → Prop) (μ1 : List Value → World → Nat), I1 [.bool false, .int .i64 (s1.size : Int), .slice sb1 sn1 sc1, .int .i64 (sn1 : Int), .int .i64 0] w1 ∧
∀ (b2 : Bool) (n5 : Int) (sb2 : Option Addr) (sn2 : Nat) (sc2 : Nat) (n6 : Int) (n7 : Int) (w2 : World), I1 [.bool b2, .int .i64 n5, .slice sb2 sn2 sc2, .int .i64 n6, .int .i64 n7] w2 → (
br (decide (n7 < n6)) (
ixs sb2 sn2 n7 1 (fun a1 =>
ld a1 (xS fun s2 =>
(fun w3 => I1 [.bool b2, .int .i64 (IntKind.i64.wrap (n5 + (s2.size : Int))), .slice sb2 sn2 sc2, .int .i64 n6, .int .i64 (IntKind.i64.wrap (n7 + 1))] w3 ∧ μ1 [.bool b2, .int .i64 (IntKind.i64.wrap (n5 + (s2.size : Int))), .slice sb2 sn2 sc2, .int .i64 n6, .int .i64 (IntKind.i64.wrap (n7 + 1))] w3 < μ1 [.bool b2, .int .i64 n5, .slice sb2 sn2 sc2, .int .i64 n6, .int .i64 n7] w2)))) (
br (decide ((sn1 : Int) > 10)) (
bondstorelaw06_JournalFlying.j1 K b2 sb1 sn1 sc1 n1 s1 n2 n3 n4 true) (
br (decide (n5 > 4096)) (
bondstorelaw06_JournalFlying.j1 K b2 sb1 sn1 sc1 n1 s1 n2 n3 n4 true) (
bondstorelaw06_JournalFlying.j1 K b2 sb1 sn1 sc1 n1 s1 n2 n3 n4 (decide (n1 < 1)))))) w2)))

def bondstorelaw06_JournalFlying.u : WP := fun args K => match args with | [.slice sb1 sn1 sc1, .string s1, .int .i64 n1, .int .u64 n2, .int .i64 n3, .int .i64 n4] => bondstorelaw06_JournalFlying sb1 sn1 sc1 s1 n1 n2 n3 n4 K | _ => no

def bondstorelaw06_JournalRestarts.j2 (K : VK) (p3 : Option Addr) (p4 : Option Addr) (s2 : ByteArray) (I2 : List Value → World → Prop) (b4 : Bool) (sb4 : Option Addr) (sn4 : Nat) (sc4 : Nat) (n7 : Int) (n8 : Int) (μ2 : List Value → World → Nat) (w5 : World) : WK :=
stamp_Greatest p3 (xI .i64 fun n9 =>
journal_Journal_Add p4 (IntKind.i64.wrap (n9 + 1)) s2 (xI .i64 fun n10 =>
br (n10 != 0) (
K (.bool true)) (
(fun w6 => I2 [.bool b4, .pointer p3, .pointer p4, .slice sb4 sn4 sc4, .int .i64 n7, .int .i64 (IntKind.i64.wrap (n8 + 1))] w6 ∧ μ2 [.bool b4, .pointer p3, .pointer p4, .slice sb4 sn4 sc4, .int .i64 n7, .int .i64 (IntKind.i64.wrap (n8 + 1))] w6 < μ2 [.bool b4, .pointer p3, .pointer p4, .slice sb4 sn4 sc4, .int .i64 n7, .int .i64 n8] w5))))

def bondstorelaw06_JournalRestarts.j3 (K : VK) (p3 : Option Addr) (n2 : Int) (n1 : Int) (sb1 : Option Addr) (sn1 : Nat) (sc1 : Nat) (p4 : Option Addr) : WK :=
platter_Disk_Crash p3 n2 (-1) 0 (x0
(journal_Open p3 0 80 n1 (x3 fun v4 v5 v6 => (xP fun p5 =>
(xL fun sb5 sn5 sc5 =>
(xI .i64 fun n11 =>
br (n11 == 0) (
slSl sb1 sn1 sc1 1 (some n1) none (fun sb6 sn6 sc6 =>
bondstoreref06_Same sb5 sn5 sc5 sb6 sn6 sc6 (xB fun b5 =>
br b5 (
journal_Journal_Seq p5 (xI .i64 fun n12 =>
br (n12 == (sn1 : Int)) (
journal_Journal_Seq p4 (xI .i64 fun n13 =>
K (.bool (n13 == (sn1 : Int))))) (
K (.bool false)))) (
K (.bool false))))) (
K (.bool false))) v6) v5) v4)))

def bondstorelaw06_JournalRestarts.j1 (K : VK) (b2 : Bool) (sb1 : Option Addr) (sn1 : Nat) (sc1 : Nat) (n1 : Int) (n2 : Int) (b3 : Bool) : WK :=
br b3 (
K (.bool true)) (
platter_New 80 (xP fun p1 =>
journal_Open p1 0 80 0 (x3 fun v1 v2 v3 => (xP fun p2 =>
(xL fun sb3 sn3 sc3 =>
(xI .i64 fun n6 =>
(fun w4 => ∃ (I2 : List Value → World → Prop) (μ2 : List Value → World → Nat), I2 [.bool b2, .pointer p1, .pointer p2, .slice sb1 sn1 sc1, .int .i64 (sn1 : Int), .int .i64 0] w4 ∧
∀ (b4 : Bool) (p3 : Option Addr) (p4 : Option Addr) (sb4 : Option Addr) (sn4 : Nat) (sc4 : Nat) (n7 : Int) (n8 : Int) (w5 : World), I2 [.bool b4, .pointer p3, .pointer p4, .slice sb4 sn4 sc4, .int .i64 n7, .int .i64 n8] w5 → (
br (decide (n8 < n7)) (
ixs sb4 sn4 n8 1 (fun a2 =>
ld a2 (xS fun s2 =>
br (n8 == n1) (
journal_Journal_Restart p4 (x0
(bondstorelaw06_JournalRestarts.j2 K p3 p4 s2 I2 b4 sb4 sn4 sc4 n7 n8 μ2 w5))) (
bondstorelaw06_JournalRestarts.j2 K p3 p4 s2 I2 b4 sb4 sn4 sc4 n7 n8 μ2 w5)))) (
br (n1 == (sn1 : Int)) (
journal_Journal_Restart p4 (x0
(bondstorelaw06_JournalRestarts.j3 K p3 n2 n1 sb1 sn1 sc1 p4))) (
bondstorelaw06_JournalRestarts.j3 K p3 n2 n1 sb1 sn1 sc1 p4))) w5)) v3) v2) v1)))

def bondstorelaw06_JournalRestarts (sb1 : Option Addr) (sn1 : Nat) (sc1 : Nat) (n1 : Int) (n2 : Int) (K : VK) : WK :=
bondstorelaw06_alive (xB fun b1 =>
br (!b1) (
K (.bool false)) (
(fun w1 => ∃ (I1 : List Value → World → Prop) (μ1 : List Value → World → Nat), I1 [.bool false, .int .i64 0, .slice sb1 sn1 sc1, .int .i64 (sn1 : Int), .int .i64 0] w1 ∧
∀ (b2 : Bool) (n3 : Int) (sb2 : Option Addr) (sn2 : Nat) (sc2 : Nat) (n4 : Int) (n5 : Int) (w2 : World), I1 [.bool b2, .int .i64 n3, .slice sb2 sn2 sc2, .int .i64 n4, .int .i64 n5] w2 → (
br (decide (n5 < n4)) (
ixs sb2 sn2 n5 1 (fun a1 =>
ld a1 (xS fun s1 =>
(fun w3 => I1 [.bool b2, .int .i64 (IntKind.i64.wrap (n3 + (s1.size : Int))), .slice sb2 sn2 sc2, .int .i64 n4, .int .i64 (IntKind.i64.wrap (n5 + 1))] w3 ∧ μ1 [.bool b2, .int .i64 (IntKind.i64.wrap (n3 + (s1.size : Int))), .slice sb2 sn2 sc2, .int .i64 n4, .int .i64 (IntKind.i64.wrap (n5 + 1))] w3 < μ1 [.bool b2, .int .i64 n3, .slice sb2 sn2 sc2, .int .i64 n4, .int .i64 n5] w2)))) (
br (decide ((sn1 : Int) > 20)) (
bondstorelaw06_JournalRestarts.j1 K b2 sb1 sn1 sc1 n1 n2 true) (
br (decide (n3 > 4096)) (
bondstorelaw06_JournalRestarts.j1 K b2 sb1 sn1 sc1 n1 n2 true) (
br (decide (n1 < 0)) (
bondstorelaw06_JournalRestarts.j1 K b2 sb1 sn1 sc1 n1 n2 true) (
bondstorelaw06_JournalRestarts.j1 K b2 sb1 sn1 sc1 n1 n2 (decide (n1 > (sn1 : Int)))))))) w2)))

def bondstorelaw06_JournalRestarts.u : WP := fun args K => match args with | [.slice sb1 sn1 sc1, .int .i64 n1, .int .u64 n2] => bondstorelaw06_JournalRestarts sb1 sn1 sc1 n1 n2 K | _ => no

def bondstorelaw06_great (sb1 : Option Addr) (sn1 : Nat) (sc1 : Nat) (K : VK) : WK :=
(fun w1 => ∃ (I1 : List Value → World → Prop) (μ1 : List Value → World → Nat), I1 [.bool false, .int .i64 0, .slice sb1 sn1 sc1, .int .i64 (sn1 : Int), .int .i64 0] w1 ∧
∀ (b1 : Bool) (n1 : Int) (sb2 : Option Addr) (sn2 : Nat) (sc2 : Nat) (n2 : Int) (n3 : Int) (w2 : World), I1 [.bool b1, .int .i64 n1, .slice sb2 sn2 sc2, .int .i64 n2, .int .i64 n3] w2 → (
br (decide (n3 < n2)) (
ixs sb2 sn2 n3 6 (fun a1 =>
ldN a1 6 (fun cs1 =>
mk [.int .i64 0, .int .i64 0, .int .u8 0, .int .u64 0, .int .i64 0, .int .i64 0] (fun r1 =>
chk (cs1.length = 6) (stN (⟨r1, 0, none⟩ : Addr) cs1 (
ld ((⟨r1, 0, none⟩ : Addr).add 0) (xI .i64 fun n4 =>
br (n4 == 0) (
ld ((⟨r1, 0, none⟩ : Addr).add 1) (xI .i64 fun n5 =>
br (decide (n5 < 0)) (
K (.bool true)) (
ld ((⟨r1, 0, none⟩ : Addr).add 1) (xI .i64 fun n6 =>
br (decide (n6 > 4096)) (
K (.bool true)) (
ld ((⟨r1, 0, none⟩ : Addr).add 1) (xI .i64 fun n7 =>
(fun w3 => I1 [.bool b1, .int .i64 (IntKind.i64.wrap (n1 + n7)), .slice sb2 sn2 sc2, .int .i64 n2, .int .i64 (IntKind.i64.wrap (n3 + 1))] w3 ∧ μ1 [.bool b1, .int .i64 (IntKind.i64.wrap (n1 + n7)), .slice sb2 sn2 sc2, .int .i64 n2, .int .i64 (IntKind.i64.wrap (n3 + 1))] w3 < μ1 [.bool b1, .int .i64 n1, .slice sb2 sn2 sc2, .int .i64 n2, .int .i64 n3] w2))))))) (
(fun w4 => I1 [.bool b1, .int .i64 n1, .slice sb2 sn2 sc2, .int .i64 n2, .int .i64 (IntKind.i64.wrap (n3 + 1))] w4 ∧ μ1 [.bool b1, .int .i64 n1, .slice sb2 sn2 sc2, .int .i64 n2, .int .i64 (IntKind.i64.wrap (n3 + 1))] w4 < μ1 [.bool b1, .int .i64 n1, .slice sb2 sn2 sc2, .int .i64 n2, .int .i64 n3] w2))))))))) (
br (decide ((sn1 : Int) > 60)) (
K (.bool true)) (
K (.bool (decide (n1 > 32768)))))) w2)

def bondstorelaw06_great.u : WP := fun args K => match args with | [.slice sb1 sn1 sc1] => bondstorelaw06_great sb1 sn1 sc1 K | _ => no

def bondstorelaw06_text (n1 : Int) (n2 : Int) (K : VK) : WK :=
mkSl 1 [.int .u8 0] n1 n1 (fun sb1 sn1 sc1 =>
(fun w1 => ∃ (I1 : List Value → World → Prop) (μ1 : List Value → World → Nat), I1 [.string .empty, .slice sb1 sn1 sc1, .int .i64 (sn1 : Int), .int .i64 0] w1 ∧
∀ (s1 : ByteArray) (sb2 : Option Addr) (sn2 : Nat) (sc2 : Nat) (n3 : Int) (n4 : Int) (w2 : World), I1 [.string s1, .slice sb2 sn2 sc2, .int .i64 n3, .int .i64 n4] w2 → (
br (decide (n4 < n3)) (
ixs sb2 sn2 n4 1 (fun a1 =>
st a1 (.int .u8 (IntKind.u8.wrap (n2 + (IntKind.u8.wrap n4)))) (
(fun w3 => I1 [.string s1, .slice sb2 sn2 sc2, .int .i64 n3, .int .i64 (IntKind.i64.wrap (n4 + 1))] w3 ∧ μ1 [.string s1, .slice sb2 sn2 sc2, .int .i64 n3, .int .i64 (IntKind.i64.wrap (n4 + 1))] w3 < μ1 [.string s1, .slice sb2 sn2 sc2, .int .i64 n3, .int .i64 n4] w2)))) (
b2s sb2 sn2 (fun s2 =>
K (.string s2)))) w2))

def bondstorelaw06_text.u : WP := fun args K => match args with | [.int .i64 n1, .int .u8 n2] => bondstorelaw06_text n1 n2 K | _ => no

def bondstorelaw06_tail (sb1 : Option Addr) (sn1 : Nat) (sc1 : Nat) (sb2 : Option Addr) (sn2 : Nat) (sc2 : Nat) (s1 : ByteArray) (b1 : Bool) (K : VK) : WK :=
bondstoreref06_Same sb1 sn1 sc1 sb2 sn2 sc2 (xB fun b2 =>
br b2 (
K (.bool true)) (
br b1 (
chk True (mk [] (fun r1 =>
appSl 1 16 [.string .empty] (some ⟨r1, 0, none⟩) 0 0 sb2 sn2 (fun sb3 sn3 sc3 =>
chk (1 = 1 ∧ True) (mk [.string s1] (fun r2 =>
appSl 1 16 [.string .empty] sb3 sn3 sc3 (some ⟨r2, 0, none⟩) 1 (fun sb4 sn4 sc4 =>
bondstoreref06_Same sb1 sn1 sc1 sb4 sn4 sc4 (xB fun b3 =>
K (.bool b3))))))))) (
K (.bool false))))

def bondstorelaw06_tail.u : WP := fun args K => match args with | [.slice sb1 sn1 sc1, .slice sb2 sn2 sc2, .string s1, .bool b1] => bondstorelaw06_tail sb1 sn1 sc1 sb2 sn2 sc2 s1 b1 K | _ => no

def bondstorelaw06_JournalKeeps.j1 (K : VK) (I1 : List Value → World → Prop) (b3 : Bool) (p3 : Option Addr) (sb4 : Option Addr) (sn4 : Nat) (sc4 : Nat) (n2 : Int) (n3 : Int) (μ1 : List Value → World → Nat) (p4 : Option Addr) (sb3 : Option Addr) (sn3 : Nat) (sc3 : Nat) (s1 : ByteArray) (b4 : Bool) (w2 : World) (p5 : Option Addr) (sb5 : Option Addr) (sn5 : Nat) (sc5 : Nat) (s2 : ByteArray) (b5 : Bool) : WK :=
journal_Journal_Seq p5 (xI .i64 fun n4 =>
br (n4 != (sn5 : Int)) (
K (.bool false)) (
(fun w3 => I1 [.bool b3, .pointer p3, .pointer p5, .slice sb5 sn5 sc5, .string s2, .bool b5, .slice sb4 sn4 sc4, .int .i64 n2, .int .i64 (IntKind.i64.wrap (n3 + 1))] w3 ∧ μ1 [.bool b3, .pointer p3, .pointer p5, .slice sb5 sn5 sc5, .string s2, .bool b5, .slice sb4 sn4 sc4, .int .i64 n2, .int .i64 (IntKind.i64.wrap (n3 + 1))] w3 < μ1 [.bool b3, .pointer p3, .pointer p4, .slice sb3 sn3 sc3, .string s1, .bool b4, .slice sb4 sn4 sc4, .int .i64 n2, .int .i64 n3] w2)))

def bondstorelaw06_JournalKeeps (sb1 : Option Addr) (sn1 : Nat) (sc1 : Nat) (K : VK) : WK :=
bondstorelaw06_alive (xB fun b1 =>
br (!b1) (
K (.bool false)) (
bondstorelaw06_great sb1 sn1 sc1 (xB fun b2 =>
br b2 (
K (.bool true)) (
platter_New 40 (xP fun p1 =>
journal_Open p1 0 40 0 (x3 fun v1 v2 v3 => (xP fun p2 =>
(xL fun sb2 sn2 sc2 =>
(xI .i64 fun n1 =>
br (n1 != 0) (
K (.bool false)) (
(fun w1 => ∃ (I1 : List Value → World → Prop) (μ1 : List Value → World → Nat), I1 [.bool false, .pointer p1, .pointer p2, .slice none 0 0, .string .empty, .bool false, .slice sb1 sn1 sc1, .int .i64 (sn1 : Int), .int .i64 0] w1 ∧
∀ (b3 : Bool) (p3 : Option Addr) (p4 : Option Addr) (sb3 : Option Addr) (sn3 : Nat) (sc3 : Nat) (s1 : ByteArray) (b4 : Bool) (sb4 : Option Addr) (sn4 : Nat) (sc4 : Nat) (n2 : Int) (n3 : Int) (w2 : World), I1 [.bool b3, .pointer p3, .pointer p4, .slice sb3 sn3 sc3, .string s1, .bool b4, .slice sb4 sn4 sc4, .int .i64 n2, .int .i64 n3] w2 → (
br (decide (n3 < n2)) (
ixs sb4 sn4 n3 6 (fun a1 =>
ldN a1 6 (fun cs1 =>
mk [.int .i64 0, .int .i64 0, .int .u8 0, .int .u64 0, .int .i64 0, .int .i64 0] (fun r1 =>
chk (cs1.length = 6) (stN (⟨r1, 0, none⟩ : Addr) cs1 (
ld ((⟨r1, 0, none⟩ : Addr).add 0) (xI .i64 fun n5 =>
br (n5 == 0) (
ld ((⟨r1, 0, none⟩ : Addr).add 1) (xI .i64 fun n6 =>
ld ((⟨r1, 0, none⟩ : Addr).add 2) (xI .u8 fun n7 =>
bondstorelaw06_text n6 n7 (xS fun s3 =>
journal_Journal_Sick p4 (xB fun b6 =>
journal_Journal_Room p4 (s3.size : Int) (xB fun b7 =>
journal_Journal_At p4 (xI .i64 fun n8 =>
stamp_Greatest p3 (xI .i64 fun n9 =>
journal_Journal_Add p4 (IntKind.i64.wrap (n9 + 1)) s3 (xI .i64 fun n10 =>
br (n10 == 0) (
chk (1 = 1 ∧ True) (mk [.string s3] (fun r2 =>
appSl 1 16 [.string .empty] sb3 sn3 sc3 (some ⟨r2, 0, none⟩) 1 (fun sb6 sn6 sc6 =>
journal_Journal_At p4 (xI .i64 fun n11 =>
bondstoreref05_Count (IntKind.i64.wrap (12 + (s3.size : Int))) (xI .i64 fun n12 =>
br (n11 != (IntKind.i64.wrap (n8 + n12))) (
K (.bool false)) (
bondstorelaw06_JournalKeeps.j1 K I1 b3 p3 sb4 sn4 sc4 n2 n3 μ1 p4 sb3 sn3 sc3 s1 b4 w2 p4 sb6 sn6 sc6 s1 b4))))))) (
br (n10 == 8) (
br b6 (
K (.bool false)) (
journal_Journal_Sick p4 (xB fun b8 =>
br (!b8) (
K (.bool false)) (
bondstorelaw06_JournalKeeps.j1 K I1 b3 p3 sb4 sn4 sc4 n2 n3 μ1 p4 sb3 sn3 sc3 s1 b4 w2 p4 sb3 sn3 sc3 s3 true)))) (
br (n10 != 9) (
br (n10 != 6) (
K (.bool false)) (
br (!((n10 == 9) == b6)) (
K (.bool false)) (
br (n10 == 6) (
br b7 (
K (.bool false)) (
bondstorelaw06_JournalKeeps.j1 K I1 b3 p3 sb4 sn4 sc4 n2 n3 μ1 p4 sb3 sn3 sc3 s1 b4 w2 p4 sb3 sn3 sc3 s1 b4)) (
bondstorelaw06_JournalKeeps.j1 K I1 b3 p3 sb4 sn4 sc4 n2 n3 μ1 p4 sb3 sn3 sc3 s1 b4 w2 p4 sb3 sn3 sc3 s1 b4)))) (
br (!((n10 == 9) == b6)) (
K (.bool false)) (
br (n10 == 6) (
br b7 (
K (.bool false)) (
bondstorelaw06_JournalKeeps.j1 K I1 b3 p3 sb4 sn4 sc4 n2 n3 μ1 p4 sb3 sn3 sc3 s1 b4 w2 p4 sb3 sn3 sc3 s1 b4)) (
bondstorelaw06_JournalKeeps.j1 K I1 b3 p3 sb4 sn4 sc4 n2 n3 μ1 p4 sb3 sn3 sc3 s1 b4 w2 p4 sb3 sn3 sc3 s1 b4)))))))))))))) (
br (n5 == 1) (
ld ((⟨r1, 0, none⟩ : Addr).add 3) (xI .u64 fun n13 =>
ld ((⟨r1, 0, none⟩ : Addr).add 4) (xI .i64 fun n14 =>
ld ((⟨r1, 0, none⟩ : Addr).add 5) (xI .i64 fun n15 =>
platter_Disk_Crash p3 n13 n14 n15 (x0
(journal_Open p3 0 40 0 (x3 fun v4 v5 v6 => (xP fun p6 =>
(xL fun sb7 sn7 sc7 =>
(xI .i64 fun n16 =>
br (n16 != 0) (
K (.bool false)) (
bondstorelaw06_tail sb7 sn7 sc7 sb3 sn3 sc3 s1 b4 (xB fun b9 =>
br (!b9) (
K (.bool false)) (
bondstorelaw06_JournalKeeps.j1 K I1 b3 p3 sb4 sn4 sc4 n2 n3 μ1 p4 sb3 sn3 sc3 s1 b4 w2 p6 sb7 sn7 sc7 s1 false)))) v6) v5) v4))))))) (
br (n5 == 2) (
ld ((⟨r1, 0, none⟩ : Addr).add 1) (xI .i64 fun n17 =>
platter_Disk_Arm p3 n17 (x0
(bondstorelaw06_JournalKeeps.j1 K I1 b3 p3 sb4 sn4 sc4 n2 n3 μ1 p4 sb3 sn3 sc3 s1 b4 w2 p4 sb3 sn3 sc3 s1 b4)))) (
bondstorelaw06_JournalKeeps.j1 K I1 b3 p3 sb4 sn4 sc4 n2 n3 μ1 p4 sb3 sn3 sc3 s1 b4 w2 p4 sb3 sn3 sc3 s1 b4)))))))))) (
K (.bool true))) w2))) v3) v2) v1))))))

def bondstorelaw06_JournalKeeps.u : WP := fun args K => match args with | [.slice sb1 sn1 sc1] => bondstorelaw06_JournalKeeps sb1 sn1 sc1 K | _ => no

end Go.Prog
