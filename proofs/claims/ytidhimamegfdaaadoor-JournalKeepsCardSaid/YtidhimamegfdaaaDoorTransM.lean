/- ProgM: part of the proof: see the last text. -/
import Derived.Test.YtidhimamegfdaaaDoorExt
namespace Go.Prog
set_option linter.unusedSimpArgs false
open Go.Den
set_option linter.unusedVariables false

def platter_blank  (K : VK) : WK :=
strings_Repeat (⟨#[0]⟩ : ByteArray) 128 (xS fun s1 =>
K (.string s1))

def platter_blank.u : WP := fun args K => match args with | [] => platter_blank  K | _ => no

def platter_New (n1 : Int) (K : VK) : WK :=
chk True (
mk [.slice none 0 0, .slice none 0 0, .int .i64 0, .int .i64 0] (fun r1 =>
(fun w1 => ∃ (I1 : List Value → World → Prop) (μ1 : List Value → World → Nat), I1 [.pointer none, .pointer (some (⟨r1, 0, none⟩ : Addr)), .int .i64 (min2 (max2 n1 0) 4096), .int .i64 0] w1 ∧
∀ (p1 : Option Addr) (a1 : Addr) (n2 : Int) (n3 : Int) (w2 : World), I1 [.pointer p1, .pointer (some a1), .int .i64 n2, .int .i64 n3] w2 → (
br (decide (n3 < n2)) (
tick (
ld (a1.add 0) (xL fun sb1 sn1 sc1 =>
platter_blank (xS fun s1 =>
kp (a1.add 0) [.slice sb1 sn1 sc1] (
chk (1 = 1 ∧ True) (mk [.string s1] (fun r2 =>
kp (a1.add 0) [.slice sb1 sn1 sc1] (
appSl 1 16 [.string .empty] sb1 sn1 sc1 (some ⟨r2, 0, none⟩) 1 (fun sb2 sn2 sc2 =>
st (a1.add 0) (.slice sb2 sn2 sc2) (
(fun w3 => I1 [.pointer p1, .pointer (some a1), .int .i64 n2, .int .i64 (IntKind.i64.wrap (n3 + 1))] w3 ∧ μ1 [.pointer p1, .pointer (some a1), .int .i64 n2, .int .i64 (IntKind.i64.wrap (n3 + 1))] w3 < μ1 [.pointer p1, .pointer (some a1), .int .i64 n2, .int .i64 n3] w2))))))))))) (
K (.pointer (some a1)))) w2)))

def platter_New.u : WP := fun args K => match args with | [.int .i64 n1] => platter_New n1 K | _ => no

def platter_Disk_is (p1 : Option Addr) (n1 : Int) (K : VK) : WK :=
br (!(p1.isNone)) (
br (decide (n1 ≥ 0)) (
nn p1 (fun a1 =>
ld (a1.add 0) (xL fun sb1 sn1 sc1 =>
K (.bool (decide (n1 < (sn1 : Int))))))) (
K (.bool false))) (
K (.bool false))

def platter_Disk_is.u : WP := fun args K => match args with | [.pointer p1, .int .i64 n1] => platter_Disk_is p1 n1 K | _ => no

def platter_Disk_fails (p1 : Option Addr) (K : VK) : WK :=
nn p1 (fun a1 =>
ld (a1.add 2) (xI .i64 fun n1 =>
nn p1 (fun a2 =>
st (a2.add 2) (.int .i64 (IntKind.i64.wrap (n1 + 1))) (
nn p1 (fun a3 =>
ld (a3.add 3) (xI .i64 fun n2 =>
br (n2 == 0) (
K (.bool false)) (
nn p1 (fun a4 =>
ld (a4.add 3) (xI .i64 fun n3 =>
nn p1 (fun a5 =>
st (a5.add 3) (.int .i64 (IntKind.i64.wrap (n3 - 1))) (
nn p1 (fun a6 =>
ld (a6.add 3) (xI .i64 fun n4 =>
K (.bool (n4 == 0)))))))))))))))

def platter_Disk_fails.u : WP := fun args K => match args with | [.pointer p1] => platter_Disk_fails p1 K | _ => no

def platter_Disk_Write.j1 (K : VK) (p1 : Option Addr) (s1 : ByteArray) (n1 : Int) (b1 : Bool) : WK :=
br b1 (
K (.int .i64 1)) (
platter_Disk_fails p1 (xB fun b2 =>
br b2 (
K (.int .i64 8)) (
tick (
nn p1 (fun a1 =>
ld (a1.add 1) (xL fun sb1 sn1 sc1 =>
platter_blank (xS fun s2 =>
kp (a1.add 1) [.slice sb1 sn1 sc1] (
slStr s2 (some (s1.size : Int)) none (fun s3 =>
chk (((s1.size + s3.size : Nat) : Int) ≤ 9223372036854775807) (
chk (1 = 1 ∧ (1 = 1 ∧ True)) (
chk (2 = 2 ∧ True) (mk [.int .i64 n1, .string (s1 ++ s3)] (fun r1 =>
kp (a1.add 1) [.slice sb1 sn1 sc1] (
appSl 2 24 [.int .i64 0, .string .empty] sb1 sn1 sc1 (some ⟨r1, 0, none⟩) 1 (fun sb2 sn2 sc2 =>
nn p1 (fun a2 =>
st (a2.add 1) (.slice sb2 sn2 sc2) (
K (.int .i64 0))))))))))))))))))

def platter_Disk_Write (p1 : Option Addr) (n1 : Int) (s1 : ByteArray) (K : VK) : WK :=
br (p1.isNone) (
K (.int .i64 2)) (
platter_Disk_is p1 n1 (xB fun b3 =>
br (!b3) (
platter_Disk_Write.j1 K p1 s1 n1 true) (
platter_Disk_Write.j1 K p1 s1 n1 (decide ((s1.size : Int) > 128)))))

def platter_Disk_Write.u : WP := fun args K => match args with | [.pointer p1, .int .i64 n1, .string s1] => platter_Disk_Write p1 n1 s1 K | _ => no

def platter_Disk_Read (p1 : Option Addr) (n1 : Int) (K : VK) : WK :=
br (p1.isNone) (
K (.tuple ⟨[.string .empty, .int .i64 2]⟩)) (
platter_Disk_is p1 n1 (xB fun b1 =>
br (!b1) (
K (.tuple ⟨[.string .empty, .int .i64 1]⟩)) (
nn p1 (fun a1 =>
ld (a1.add 1) (xL fun sb1 sn1 sc1 =>
(fun w1 => ∃ (I1 : List Value → World → Prop) (μ1 : List Value → World → Nat), I1 [.string .empty, .int .i64 0, .int .i64 (IntKind.i64.wrap ((sn1 : Int) - 1))] w1 ∧
∀ (s1 : ByteArray) (n2 : Int) (n3 : Int) (w2 : World), I1 [.string s1, .int .i64 n2, .int .i64 n3] w2 → (
br (decide (n3 ≥ 0)) (
nn p1 (fun a2 =>
ld (a2.add 1) (xL fun sb2 sn2 sc2 =>
ixs sb2 sn2 n3 2 (fun a3 =>
ld (a3.add 0) (xI .i64 fun n4 =>
br (n4 == n1) (
nn p1 (fun a4 =>
ld (a4.add 1) (xL fun sb3 sn3 sc3 =>
ixs sb3 sn3 n3 2 (fun a5 =>
ld (a5.add 1) (xS fun s2 =>
K (.tuple ⟨[.string s2, .int .i64 0]⟩)))))) (
(fun w3 => I1 [.string s1, .int .i64 n2, .int .i64 (IntKind.i64.wrap (n3 - 1))] w3 ∧ μ1 [.string s1, .int .i64 n2, .int .i64 (IntKind.i64.wrap (n3 - 1))] w3 < μ1 [.string s1, .int .i64 n2, .int .i64 n3] w2))))))) (
nn p1 (fun a6 =>
ld (a6.add 0) (xL fun sb4 sn4 sc4 =>
ixs sb4 sn4 n1 1 (fun a7 =>
ld a7 (xS fun s3 =>
K (.tuple ⟨[.string s3, .int .i64 0]⟩))))))) w2))))))

def platter_Disk_Read.u : WP := fun args K => match args with | [.pointer p1, .int .i64 n1] => platter_Disk_Read p1 n1 K | _ => no

def platter_Disk_Crash (p1 : Option Addr) (n1 : Int) (n2 : Int) (n3 : Int) (K : VK) : WK :=
br (p1.isNone) (
K (.tuple ⟨[]⟩)) (
nn p1 (fun a1 =>
ld (a1.add 1) (xL fun sb1 sn1 sc1 =>
(fun w1 => ∃ (I1 : List Value → World → Prop) (μ1 : List Value → World → Nat), I1 [.int .i64 (min2 (max2 n3 0) 128), .slice sb1 sn1 sc1, .int .i64 (sn1 : Int), .int .i64 0] w1 ∧
∀ (n4 : Int) (sb2 : Option Addr) (sn2 : Nat) (sc2 : Nat) (n5 : Int) (n6 : Int) (w2 : World), I1 [.int .i64 n4, .slice sb2 sn2 sc2, .int .i64 n5, .int .i64 n6] w2 → (
br (decide (n6 < n5)) (
ixs sb2 sn2 n6 2 (fun a2 =>
ldN a2 2 (fun cs1 =>
mk [.int .i64 0, .string .empty] (fun r1 =>
chk (cs1.length = 2) (stN (⟨r1, 0, none⟩ : Addr) cs1 (
br (n6 == n2) (
tick (
nn p1 (fun a3 =>
ld (a3.add 0) (xL fun sb3 sn3 sc3 =>
ld ((⟨r1, 0, none⟩ : Addr).add 0) (xI .i64 fun n7 =>
ld ((⟨r1, 0, none⟩ : Addr).add 1) (xS fun s1 =>
slStr s1 none (some n4) (fun s2 =>
nn p1 (fun a4 =>
ld (a4.add 0) (xL fun sb4 sn4 sc4 =>
ld ((⟨r1, 0, none⟩ : Addr).add 0) (xI .i64 fun n8 =>
ixs sb4 sn4 n8 1 (fun a5 =>
ld a5 (xS fun s3 =>
slStr s3 (some n4) none (fun s4 =>
chk (((s2.size + s4.size : Nat) : Int) ≤ 9223372036854775807) (
ixs sb3 sn3 n7 1 (fun a6 =>
st a6 (.string (s2 ++ s4)) (
(fun w3 => I1 [.int .i64 n4, .slice sb2 sn2 sc2, .int .i64 n5, .int .i64 (IntKind.i64.wrap (n6 + 1))] w3 ∧ μ1 [.int .i64 n4, .slice sb2 sn2 sc2, .int .i64 n5, .int .i64 (IntKind.i64.wrap (n6 + 1))] w3 < μ1 [.int .i64 n4, .slice sb2 sn2 sc2, .int .i64 n5, .int .i64 n6] w2))))))))))))))))) (
chk ((0 : Int) ≤ (min2 n6 63)) (
br ((isum .u64 .and (shr .u64 n1 (min2 n6 63)) 1) == 1) (
tick (
nn p1 (fun a7 =>
ld (a7.add 0) (xL fun sb5 sn5 sc5 =>
ld ((⟨r1, 0, none⟩ : Addr).add 0) (xI .i64 fun n9 =>
ld ((⟨r1, 0, none⟩ : Addr).add 1) (xS fun s5 =>
ixs sb5 sn5 n9 1 (fun a8 =>
st a8 (.string s5) (
(fun w4 => I1 [.int .i64 n4, .slice sb2 sn2 sc2, .int .i64 n5, .int .i64 (IntKind.i64.wrap (n6 + 1))] w4 ∧ μ1 [.int .i64 n4, .slice sb2 sn2 sc2, .int .i64 n5, .int .i64 (IntKind.i64.wrap (n6 + 1))] w4 < μ1 [.int .i64 n4, .slice sb2 sn2 sc2, .int .i64 n5, .int .i64 n6] w2))))))))) (
(fun w5 => I1 [.int .i64 n4, .slice sb2 sn2 sc2, .int .i64 n5, .int .i64 (IntKind.i64.wrap (n6 + 1))] w5 ∧ μ1 [.int .i64 n4, .slice sb2 sn2 sc2, .int .i64 n5, .int .i64 (IntKind.i64.wrap (n6 + 1))] w5 < μ1 [.int .i64 n4, .slice sb2 sn2 sc2, .int .i64 n5, .int .i64 n6] w2)))))))))) (
nn p1 (fun a9 =>
st (a9.add 1) (.slice none 0 0) (
nn p1 (fun a10 =>
st (a10.add 3) (.int .i64 0) (
K (.tuple ⟨[]⟩))))))) w2))))

def platter_Disk_Crash.u : WP := fun args K => match args with | [.pointer p1, .int .u64 n1, .int .i64 n2, .int .i64 n3] => platter_Disk_Crash p1 n1 n2 n3 K | _ => no

def platter_Disk_Sectors (p1 : Option Addr) (K : VK) : WK :=
br (p1.isNone) (
K (.int .i64 0)) (
nn p1 (fun a1 =>
ld (a1.add 0) (xL fun sb1 sn1 sc1 =>
K (.int .i64 (sn1 : Int)))))

def platter_Disk_Sectors.u : WP := fun args K => match args with | [.pointer p1] => platter_Disk_Sectors p1 K | _ => no

def bondstorelaw04_alive  (K : VK) : WK :=
platter_New 2 (xP fun p1 =>
platter_Disk_Write p1 0 (⟨#[97]⟩ : ByteArray) (xI .i64 fun n1 =>
platter_Disk_Read p1 0 (x2 fun v1 v2 => (xS fun s1 =>
(xI .i64 fun n2 =>
platter_Disk_Crash p1 0 (-1) 0 (x0
(platter_Disk_Read p1 0 (x2 fun v3 v4 => (xS fun s2 =>
(xI .i64 fun n3 =>
br (n1 == 0) (
br (n2 == 0) (
br (n3 == 0) (
br ((s1.size : Int) == 128) (
ixStr s1 0 (fun c1 =>
br ((c1.toNat : Int) == 97) (
br ((s2.size : Int) == 128) (
ixStr s2 0 (fun c2 =>
br ((c2.toNat : Int) == 0) (
platter_Disk_Sectors p1 (xI .i64 fun n4 =>
K (.bool (n4 == 2)))) (
K (.bool false)))) (
K (.bool false))) (
K (.bool false)))) (
K (.bool false))) (
K (.bool false))) (
K (.bool false))) (
K (.bool false))) v4) v3)))) v2) v1)))

def bondstorelaw04_alive.u : WP := fun args K => match args with | [] => bondstorelaw04_alive  K | _ => no

def bondstoreref04_blank  (K : VK) : WK :=
(fun w1 => ∃ (I1 : List Value → World → Prop) (μ1 : List Value → World → Nat), I1 [.string .empty, .string .empty, .int .i64 0] w1 ∧
∀ (s1 : ByteArray) (s2 : ByteArray) (n1 : Int) (w2 : World), I1 [.string s1, .string s2, .int .i64 n1] w2 → (
br (decide (n1 < 128)) (
chk (((s2.size + (⟨#[0]⟩ : ByteArray).size : Nat) : Int) ≤ 9223372036854775807) (
(fun w3 => I1 [.string s1, .string (s2 ++ (⟨#[0]⟩ : ByteArray)), .int .i64 (IntKind.i64.wrap (n1 + 1))] w3 ∧ μ1 [.string s1, .string (s2 ++ (⟨#[0]⟩ : ByteArray)), .int .i64 (IntKind.i64.wrap (n1 + 1))] w3 < μ1 [.string s1, .string s2, .int .i64 n1] w2))) (
K (.string s2))) w2)

def bondstoreref04_blank.u : WP := fun args K => match args with | [] => bondstoreref04_blank  K | _ => no

def bondstoreref04_New (n1 : Int) (K : VK) : WK :=
chk True (
mk [.slice none 0 0, .slice none 0 0, .slice none 0 0, .int .i64 0, .int .i64 0] (fun r1 =>
bondstoreref04_blank (xS fun s1 =>
(fun w1 => ∃ (I1 : List Value → World → Prop) (μ1 : List Value → World → Nat), I1 [.pointer none, .pointer (some (⟨r1, 0, none⟩ : Addr)), .string s1, .int .i64 0] w1 ∧
∀ (p1 : Option Addr) (a1 : Addr) (s2 : ByteArray) (n2 : Int) (w2 : World), I1 [.pointer p1, .pointer (some a1), .string s2, .int .i64 n2] w2 → (
br (decide (n2 < n1)) (
br (decide (n2 < 4096)) (
ld (a1.add 0) (xL fun sb1 sn1 sc1 =>
chk (1 = 1 ∧ True) (mk [.string s2] (fun r2 =>
appSl 1 16 [.string .empty] sb1 sn1 sc1 (some ⟨r2, 0, none⟩) 1 (fun sb2 sn2 sc2 =>
st (a1.add 0) (.slice sb2 sn2 sc2) (
(fun w3 => I1 [.pointer p1, .pointer (some a1), .string s2, .int .i64 (IntKind.i64.wrap (n2 + 1))] w3 ∧ μ1 [.pointer p1, .pointer (some a1), .string s2, .int .i64 (IntKind.i64.wrap (n2 + 1))] w3 < μ1 [.pointer p1, .pointer (some a1), .string s2, .int .i64 n2] w2))))))) (
K (.pointer (some a1)))) (
K (.pointer (some a1)))) w2))))

def bondstoreref04_New.u : WP := fun args K => match args with | [.int .i64 n1] => bondstoreref04_New n1 K | _ => no

def bondstorelaw04_platterBlank  (K : VK) : WK :=
bondstoreref04_New 1 (xP fun p1 =>
nn p1 (fun a1 =>
ld (a1.add 0) (xL fun sb1 sn1 sc1 =>
ixs sb1 sn1 0 1 (fun a2 =>
ld a2 (xS fun s1 =>
K (.string s1))))))

def bondstorelaw04_platterBlank.u : WP := fun args K => match args with | [] => bondstorelaw04_platterBlank  K | _ => no

def bondstorelaw04_PlatterTorn.j1 (K : VK) (n1 : Int) (sb1 : Option Addr) (sn1 : Nat) (sc1 : Nat) (n2 : Int) (n3 : Int) (n4 : Int) (b2 : Bool) : WK :=
br b2 (
K (.bool true)) (
platter_New n1 (xP fun p1 =>
(fun w1 => ∃ (I1 : List Value → World → Prop) (μ1 : List Value → World → Nat), I1 [.bool false, .pointer p1, .slice none 0 0, .slice sb1 sn1 sc1, .int .i64 (sn1 : Int), .int .i64 0] w1 ∧
∀ (b3 : Bool) (p2 : Option Addr) (sb2 : Option Addr) (sn2 : Nat) (sc2 : Nat) (sb3 : Option Addr) (sn3 : Nat) (sc3 : Nat) (n5 : Int) (n6 : Int) (w2 : World), I1 [.bool b3, .pointer p2, .slice sb2 sn2 sc2, .slice sb3 sn3 sc3, .int .i64 n5, .int .i64 n6] w2 → (
br (decide (n6 < n5)) (
ixs sb3 sn3 n6 1 (fun a1 =>
ld a1 (xS fun s1 =>
br (decide ((s1.size : Int) > 128)) (
K (.bool true)) (
platter_Disk_Write p2 n6 s1 (xI .i64 fun n7 =>
platter_Disk_Read p2 n6 (x2 fun v1 v2 => (xS fun s2 =>
(xI .i64 fun n8 =>
chk (1 = 1 ∧ True) (mk [.string s2] (fun r1 =>
appSl 1 16 [.string .empty] sb2 sn2 sc2 (some ⟨r1, 0, none⟩) 1 (fun sb4 sn4 sc4 =>
(fun w3 => I1 [.bool b3, .pointer p2, .slice sb4 sn4 sc4, .slice sb3 sn3 sc3, .int .i64 n5, .int .i64 (IntKind.i64.wrap (n6 + 1))] w3 ∧ μ1 [.bool b3, .pointer p2, .slice sb4 sn4 sc4, .slice sb3 sn3 sc3, .int .i64 n5, .int .i64 (IntKind.i64.wrap (n6 + 1))] w3 < μ1 [.bool b3, .pointer p2, .slice sb2 sn2 sc2, .slice sb3 sn3 sc3, .int .i64 n5, .int .i64 n6] w2))))) v2) v1)))))) (
platter_Disk_Crash p2 n2 n3 n4 (x0
((fun w4 => ∃ (I2 : List Value → World → Prop) (μ2 : List Value → World → Nat), I2 [.bool b3, .pointer p2, .slice sb2 sn2 sc2, .int .i64 (min2 (max2 n4 0) 128), .int .i64 (sn1 : Int), .int .i64 0] w4 ∧
∀ (b4 : Bool) (p3 : Option Addr) (sb5 : Option Addr) (sn5 : Nat) (sc5 : Nat) (n9 : Int) (n10 : Int) (n11 : Int) (w5 : World), I2 [.bool b4, .pointer p3, .slice sb5 sn5 sc5, .int .i64 n9, .int .i64 n10, .int .i64 n11] w5 → (
br (decide (n11 < n10)) (
platter_Disk_Read p3 n11 (x2 fun v3 v4 => (xS fun s3 =>
(xI .i64 fun n12 =>
ixs sb5 sn5 n11 1 (fun a2 =>
ld a2 (xS fun s4 =>
bondstorelaw04_platterBlank (xS fun s5 =>
tick (
br (n11 == n3) (
ixs sb5 sn5 n11 1 (fun a3 =>
ld a3 (xS fun s6 =>
slStr s6 none (some n9) (fun s7 =>
bondstorelaw04_platterBlank (xS fun s8 =>
kp a3 [.string s6] (
slStr s8 (some n9) none (fun s9 =>
chk (((s7.size + s9.size : Nat) : Int) ≤ 9223372036854775807) (
br (!(strEq s3 (s7 ++ s9))) (
br (n11 == n3) (
K (.bool false)) (
br (n11 != n3) (
br (!(strEq s3 s4)) (
br (!(strEq s3 s5)) (
K (.bool false)) (
(fun w6 => I2 [.bool b4, .pointer p3, .slice sb5 sn5 sc5, .int .i64 n9, .int .i64 n10, .int .i64 (IntKind.i64.wrap (n11 + 1))] w6 ∧ μ2 [.bool b4, .pointer p3, .slice sb5 sn5 sc5, .int .i64 n9, .int .i64 n10, .int .i64 (IntKind.i64.wrap (n11 + 1))] w6 < μ2 [.bool b4, .pointer p3, .slice sb5 sn5 sc5, .int .i64 n9, .int .i64 n10, .int .i64 n11] w5))) (
(fun w7 => I2 [.bool b4, .pointer p3, .slice sb5 sn5 sc5, .int .i64 n9, .int .i64 n10, .int .i64 (IntKind.i64.wrap (n11 + 1))] w7 ∧ μ2 [.bool b4, .pointer p3, .slice sb5 sn5 sc5, .int .i64 n9, .int .i64 n10, .int .i64 (IntKind.i64.wrap (n11 + 1))] w7 < μ2 [.bool b4, .pointer p3, .slice sb5 sn5 sc5, .int .i64 n9, .int .i64 n10, .int .i64 n11] w5))) (
(fun w8 => I2 [.bool b4, .pointer p3, .slice sb5 sn5 sc5, .int .i64 n9, .int .i64 n10, .int .i64 (IntKind.i64.wrap (n11 + 1))] w8 ∧ μ2 [.bool b4, .pointer p3, .slice sb5 sn5 sc5, .int .i64 n9, .int .i64 n10, .int .i64 (IntKind.i64.wrap (n11 + 1))] w8 < μ2 [.bool b4, .pointer p3, .slice sb5 sn5 sc5, .int .i64 n9, .int .i64 n10, .int .i64 n11] w5)))) (
br (n11 != n3) (
br (!(strEq s3 s4)) (
br (!(strEq s3 s5)) (
K (.bool false)) (
(fun w9 => I2 [.bool b4, .pointer p3, .slice sb5 sn5 sc5, .int .i64 n9, .int .i64 n10, .int .i64 (IntKind.i64.wrap (n11 + 1))] w9 ∧ μ2 [.bool b4, .pointer p3, .slice sb5 sn5 sc5, .int .i64 n9, .int .i64 n10, .int .i64 (IntKind.i64.wrap (n11 + 1))] w9 < μ2 [.bool b4, .pointer p3, .slice sb5 sn5 sc5, .int .i64 n9, .int .i64 n10, .int .i64 n11] w5))) (
(fun w10 => I2 [.bool b4, .pointer p3, .slice sb5 sn5 sc5, .int .i64 n9, .int .i64 n10, .int .i64 (IntKind.i64.wrap (n11 + 1))] w10 ∧ μ2 [.bool b4, .pointer p3, .slice sb5 sn5 sc5, .int .i64 n9, .int .i64 n10, .int .i64 (IntKind.i64.wrap (n11 + 1))] w10 < μ2 [.bool b4, .pointer p3, .slice sb5 sn5 sc5, .int .i64 n9, .int .i64 n10, .int .i64 n11] w5))) (
(fun w11 => I2 [.bool b4, .pointer p3, .slice sb5 sn5 sc5, .int .i64 n9, .int .i64 n10, .int .i64 (IntKind.i64.wrap (n11 + 1))] w11 ∧ μ2 [.bool b4, .pointer p3, .slice sb5 sn5 sc5, .int .i64 n9, .int .i64 n10, .int .i64 (IntKind.i64.wrap (n11 + 1))] w11 < μ2 [.bool b4, .pointer p3, .slice sb5 sn5 sc5, .int .i64 n9, .int .i64 n10, .int .i64 n11] w5))))))))))) (
br (n11 == n3) (
K (.bool false)) (
br (n11 != n3) (
br (!(strEq s3 s4)) (
br (!(strEq s3 s5)) (
K (.bool false)) (
(fun w12 => I2 [.bool b4, .pointer p3, .slice sb5 sn5 sc5, .int .i64 n9, .int .i64 n10, .int .i64 (IntKind.i64.wrap (n11 + 1))] w12 ∧ μ2 [.bool b4, .pointer p3, .slice sb5 sn5 sc5, .int .i64 n9, .int .i64 n10, .int .i64 (IntKind.i64.wrap (n11 + 1))] w12 < μ2 [.bool b4, .pointer p3, .slice sb5 sn5 sc5, .int .i64 n9, .int .i64 n10, .int .i64 n11] w5))) (
(fun w13 => I2 [.bool b4, .pointer p3, .slice sb5 sn5 sc5, .int .i64 n9, .int .i64 n10, .int .i64 (IntKind.i64.wrap (n11 + 1))] w13 ∧ μ2 [.bool b4, .pointer p3, .slice sb5 sn5 sc5, .int .i64 n9, .int .i64 n10, .int .i64 (IntKind.i64.wrap (n11 + 1))] w13 < μ2 [.bool b4, .pointer p3, .slice sb5 sn5 sc5, .int .i64 n9, .int .i64 n10, .int .i64 n11] w5))) (
(fun w14 => I2 [.bool b4, .pointer p3, .slice sb5 sn5 sc5, .int .i64 n9, .int .i64 n10, .int .i64 (IntKind.i64.wrap (n11 + 1))] w14 ∧ μ2 [.bool b4, .pointer p3, .slice sb5 sn5 sc5, .int .i64 n9, .int .i64 n10, .int .i64 (IntKind.i64.wrap (n11 + 1))] w14 < μ2 [.bool b4, .pointer p3, .slice sb5 sn5 sc5, .int .i64 n9, .int .i64 n10, .int .i64 n11] w5))))))))) v4) v3)) (
K (.bool true))) w5))))) w2)))

def bondstorelaw04_PlatterTorn (n1 : Int) (sb1 : Option Addr) (sn1 : Nat) (sc1 : Nat) (n2 : Int) (n3 : Int) (n4 : Int) (K : VK) : WK :=
bondstorelaw04_alive (xB fun b1 =>
br (!b1) (
K (.bool false)) (
br (decide (n1 < 0)) (
bondstorelaw04_PlatterTorn.j1 K n1 sb1 sn1 sc1 n2 n3 n4 true) (
br (decide (n1 > 40)) (
bondstorelaw04_PlatterTorn.j1 K n1 sb1 sn1 sc1 n2 n3 n4 true) (
bondstorelaw04_PlatterTorn.j1 K n1 sb1 sn1 sc1 n2 n3 n4 (decide ((sn1 : Int) > n1))))))

def bondstorelaw04_PlatterTorn.u : WP := fun args K => match args with | [.int .i64 n1, .slice sb1 sn1 sc1, .int .u64 n2, .int .i64 n3, .int .i64 n4] => bondstorelaw04_PlatterTorn n1 sb1 sn1 sc1 n2 n3 n4 K | _ => no

def bondstorelaw04_great (sb1 : Option Addr) (sn1 : Nat) (sc1 : Nat) (K : VK) : WK :=
(fun w1 => ∃ (I1 : List Value → World → Prop) (μ1 : List Value → World → Nat), I1 [.bool false, .int .i64 0, .slice sb1 sn1 sc1, .int .i64 (sn1 : Int), .int .i64 0] w1 ∧
∀ (b1 : Bool) (n1 : Int) (sb2 : Option Addr) (sn2 : Nat) (sc2 : Nat) (n2 : Int) (n3 : Int) (w2 : World), I1 [.bool b1, .int .i64 n1, .slice sb2 sn2 sc2, .int .i64 n2, .int .i64 n3] w2 → (
br (decide (n3 < n2)) (
ixs sb2 sn2 n3 5 (fun a1 =>
ldN a1 5 (fun cs1 =>
mk [.int .i64 0, .int .i64 0, .string .empty, .int .u64 0, .int .i64 0] (fun r1 =>
chk (cs1.length = 5) (stN (⟨r1, 0, none⟩ : Addr) cs1 (
ld ((⟨r1, 0, none⟩ : Addr).add 2) (xS fun s1 =>
br (decide ((IntKind.i64.wrap (n1 + (s1.size : Int))) > 8192)) (
K (.bool true)) (
(fun w3 => I1 [.bool b1, .int .i64 (IntKind.i64.wrap (n1 + (s1.size : Int))), .slice sb2 sn2 sc2, .int .i64 n2, .int .i64 (IntKind.i64.wrap (n3 + 1))] w3 ∧ μ1 [.bool b1, .int .i64 (IntKind.i64.wrap (n1 + (s1.size : Int))), .slice sb2 sn2 sc2, .int .i64 n2, .int .i64 (IntKind.i64.wrap (n3 + 1))] w3 < μ1 [.bool b1, .int .i64 n1, .slice sb2 sn2 sc2, .int .i64 n2, .int .i64 n3] w2))))))))) (
K (.bool (decide ((sn1 : Int) > 80))))) w2)

def bondstorelaw04_great.u : WP := fun args K => match args with | [.slice sb1 sn1 sc1] => bondstorelaw04_great sb1 sn1 sc1 K | _ => no

def platter_Disk_Sync (p1 : Option Addr) (K : VK) : WK :=
br (p1.isNone) (
K (.int .i64 2)) (
platter_Disk_fails p1 (xB fun b1 =>
br b1 (
K (.int .i64 8)) (
nn p1 (fun a1 =>
ld (a1.add 1) (xL fun sb1 sn1 sc1 =>
(fun w1 => ∃ (I1 : List Value → World → Prop) (μ1 : List Value → World → Nat), I1 [.int .i64 0, .slice sb1 sn1 sc1, .int .i64 (sn1 : Int), .int .i64 0] w1 ∧
∀ (n1 : Int) (sb2 : Option Addr) (sn2 : Nat) (sc2 : Nat) (n2 : Int) (n3 : Int) (w2 : World), I1 [.int .i64 n1, .slice sb2 sn2 sc2, .int .i64 n2, .int .i64 n3] w2 → (
br (decide (n3 < n2)) (
ixs sb2 sn2 n3 2 (fun a2 =>
ldN a2 2 (fun cs1 =>
mk [.int .i64 0, .string .empty] (fun r1 =>
chk (cs1.length = 2) (stN (⟨r1, 0, none⟩ : Addr) cs1 (
tick (
nn p1 (fun a3 =>
ld (a3.add 0) (xL fun sb3 sn3 sc3 =>
ld ((⟨r1, 0, none⟩ : Addr).add 0) (xI .i64 fun n4 =>
ld ((⟨r1, 0, none⟩ : Addr).add 1) (xS fun s1 =>
ixs sb3 sn3 n4 1 (fun a4 =>
st a4 (.string s1) (
(fun w3 => I1 [.int .i64 n1, .slice sb2 sn2 sc2, .int .i64 n2, .int .i64 (IntKind.i64.wrap (n3 + 1))] w3 ∧ μ1 [.int .i64 n1, .slice sb2 sn2 sc2, .int .i64 n2, .int .i64 (IntKind.i64.wrap (n3 + 1))] w3 < μ1 [.int .i64 n1, .slice sb2 sn2 sc2, .int .i64 n2, .int .i64 n3] w2)))))))))))))) (
nn p1 (fun a5 =>
st (a5.add 1) (.slice none 0 0) (
K (.int .i64 0))))) w2))))))

def platter_Disk_Sync.u : WP := fun args K => match args with | [.pointer p1] => platter_Disk_Sync p1 K | _ => no

def bondstorelaw04_PlatterApart.j2 (K : VK) (p3 : Option Addr) (n2 : Int) (p4 : Option Addr) (I1 : List Value → World → Prop) (b3 : Bool) (sb2 : Option Addr) (sn2 : Nat) (sc2 : Nat) (n3 : Int) (n4 : Int) (μ1 : List Value → World → Nat) (w2 : World) : WK :=
platter_Disk_Read p3 n2 (x2 fun v1 v2 => (xS fun s1 =>
(xI .i64 fun n5 =>
platter_Disk_Read p4 n2 (x2 fun v3 v4 => (xS fun s2 =>
(xI .i64 fun n6 =>
br (!(strEq s1 s2)) (
K (.bool false)) (
(fun w3 => I1 [.bool b3, .pointer p3, .pointer p4, .slice sb2 sn2 sc2, .int .i64 n3, .int .i64 (IntKind.i64.wrap (n4 + 1))] w3 ∧ μ1 [.bool b3, .pointer p3, .pointer p4, .slice sb2 sn2 sc2, .int .i64 n3, .int .i64 (IntKind.i64.wrap (n4 + 1))] w3 < μ1 [.bool b3, .pointer p3, .pointer p4, .slice sb2 sn2 sc2, .int .i64 n3, .int .i64 n4] w2))) v4) v3)) v2) v1)

def bondstorelaw04_PlatterApart.j1 (K : VK) (n1 : Int) (sb1 : Option Addr) (sn1 : Nat) (sc1 : Nat) (n2 : Int) (b2 : Bool) : WK :=
br b2 (
K (.bool true)) (
platter_New n1 (xP fun p1 =>
platter_New n1 (xP fun p2 =>
(fun w1 => ∃ (I1 : List Value → World → Prop) (μ1 : List Value → World → Nat), I1 [.bool false, .pointer p1, .pointer p2, .slice sb1 sn1 sc1, .int .i64 (sn1 : Int), .int .i64 0] w1 ∧
∀ (b3 : Bool) (p3 : Option Addr) (p4 : Option Addr) (sb2 : Option Addr) (sn2 : Nat) (sc2 : Nat) (n3 : Int) (n4 : Int) (w2 : World), I1 [.bool b3, .pointer p3, .pointer p4, .slice sb2 sn2 sc2, .int .i64 n3, .int .i64 n4] w2 → (
br (decide (n4 < n3)) (
ixs sb2 sn2 n4 5 (fun a1 =>
ldN a1 5 (fun cs1 =>
mk [.int .i64 0, .int .i64 0, .string .empty, .int .u64 0, .int .i64 0] (fun r1 =>
chk (cs1.length = 5) (stN (⟨r1, 0, none⟩ : Addr) cs1 (
ld ((⟨r1, 0, none⟩ : Addr).add 0) (xI .i64 fun n7 =>
br (n7 == 0) (
ld ((⟨r1, 0, none⟩ : Addr).add 1) (xI .i64 fun n8 =>
ld ((⟨r1, 0, none⟩ : Addr).add 2) (xS fun s3 =>
platter_Disk_Write p3 n8 s3 (xI .i64 fun n9 =>
ld ((⟨r1, 0, none⟩ : Addr).add 1) (xI .i64 fun n10 =>
br (n10 == n2) (
ld ((⟨r1, 0, none⟩ : Addr).add 1) (xI .i64 fun n11 =>
ld ((⟨r1, 0, none⟩ : Addr).add 2) (xS fun s4 =>
platter_Disk_Write p4 n11 s4 (xI .i64 fun n12 =>
bondstorelaw04_PlatterApart.j2 K p3 n2 p4 I1 b3 sb2 sn2 sc2 n3 n4 μ1 w2)))) (
bondstorelaw04_PlatterApart.j2 K p3 n2 p4 I1 b3 sb2 sn2 sc2 n3 n4 μ1 w2)))))) (
br (n7 == 1) (
platter_Disk_Sync p3 (xI .i64 fun n13 =>
platter_Disk_Sync p4 (xI .i64 fun n14 =>
bondstorelaw04_PlatterApart.j2 K p3 n2 p4 I1 b3 sb2 sn2 sc2 n3 n4 μ1 w2))) (
bondstorelaw04_PlatterApart.j2 K p3 n2 p4 I1 b3 sb2 sn2 sc2 n3 n4 μ1 w2))))))))) (
K (.bool true))) w2))))

def bondstorelaw04_PlatterApart (n1 : Int) (sb1 : Option Addr) (sn1 : Nat) (sc1 : Nat) (n2 : Int) (K : VK) : WK :=
bondstorelaw04_alive (xB fun b1 =>
br (!b1) (
K (.bool false)) (
bondstorelaw04_great sb1 sn1 sc1 (xB fun b4 =>
br b4 (
bondstorelaw04_PlatterApart.j1 K n1 sb1 sn1 sc1 n2 true) (
br (decide (n2 < 0)) (
bondstorelaw04_PlatterApart.j1 K n1 sb1 sn1 sc1 n2 true) (
br (decide (n2 ≥ n1)) (
bondstorelaw04_PlatterApart.j1 K n1 sb1 sn1 sc1 n2 true) (
bondstorelaw04_PlatterApart.j1 K n1 sb1 sn1 sc1 n2 (decide (n1 > 40))))))))

def bondstorelaw04_PlatterApart.u : WP := fun args K => match args with | [.int .i64 n1, .slice sb1 sn1 sc1, .int .i64 n2] => bondstorelaw04_PlatterApart n1 sb1 sn1 sc1 n2 K | _ => no

def platter_Disk_Arm (p1 : Option Addr) (n1 : Int) (K : VK) : WK :=
br (!(p1.isNone)) (
nn p1 (fun a1 =>
st (a1.add 3) (.int .i64 (max2 n1 0)) (
K (.tuple ⟨[]⟩)))) (
K (.tuple ⟨[]⟩))

def platter_Disk_Arm.u : WP := fun args K => match args with | [.pointer p1, .int .i64 n1] => platter_Disk_Arm p1 n1 K | _ => no

def bondstoreref04_Disk_fails (p1 : Option Addr) (K : VK) : WK :=
nn p1 (fun a1 =>
ld (a1.add 3) (xI .i64 fun n1 =>
nn p1 (fun a2 =>
st (a2.add 3) (.int .i64 (IntKind.i64.wrap (n1 + 1))) (
nn p1 (fun a3 =>
ld (a3.add 4) (xI .i64 fun n2 =>
nn p1 (fun a4 =>
st (a4.add 4) (.int .i64 (IntKind.i64.wrap (n2 - 1))) (
nn p1 (fun a5 =>
ld (a5.add 4) (xI .i64 fun n3 =>
K (.bool (n3 == 0))))))))))))

def bondstoreref04_Disk_fails.u : WP := fun args K => match args with | [.pointer p1] => bondstoreref04_Disk_fails p1 K | _ => no

def bondstoreref04_Disk_Write.j1 (K : VK) (p1 : Option Addr) (n1 : Int) (s1 : ByteArray) (b1 : Bool) : WK :=
br b1 (
K (.int .i64 1)) (
bondstoreref04_Disk_fails p1 (xB fun b2 =>
br b2 (
K (.int .i64 8)) (
nn p1 (fun a1 =>
ld (a1.add 1) (xL fun sb1 sn1 sc1 =>
chk (1 = 1 ∧ True) (mk [.int .i64 n1] (fun r1 =>
appSl 1 8 [.int .i64 0] sb1 sn1 sc1 (some ⟨r1, 0, none⟩) 1 (fun sb2 sn2 sc2 =>
nn p1 (fun a2 =>
st (a2.add 1) (.slice sb2 sn2 sc2) (
tick (
nn p1 (fun a3 =>
ld (a3.add 2) (xL fun sb3 sn3 sc3 =>
bondstoreref04_blank (xS fun s2 =>
kp (a3.add 2) [.slice sb3 sn3 sc3] (
slStr s2 (some (s1.size : Int)) none (fun s3 =>
chk (((s1.size + s3.size : Nat) : Int) ≤ 9223372036854775807) (
chk (1 = 1 ∧ True) (mk [.string (s1 ++ s3)] (fun r2 =>
kp (a3.add 2) [.slice sb3 sn3 sc3] (
appSl 1 16 [.string .empty] sb3 sn3 sc3 (some ⟨r2, 0, none⟩) 1 (fun sb4 sn4 sc4 =>
nn p1 (fun a4 =>
st (a4.add 2) (.slice sb4 sn4 sc4) (
K (.int .i64 0))))))))))))))))))))))))

def bondstoreref04_Disk_Write (p1 : Option Addr) (n1 : Int) (s1 : ByteArray) (K : VK) : WK :=
br (decide (n1 < 0)) (
bondstoreref04_Disk_Write.j1 K p1 n1 s1 true) (
nn p1 (fun a5 =>
ld (a5.add 0) (xL fun sb5 sn5 sc5 =>
br (decide (n1 ≥ (sn5 : Int))) (
bondstoreref04_Disk_Write.j1 K p1 n1 s1 true) (
bondstoreref04_Disk_Write.j1 K p1 n1 s1 (decide ((s1.size : Int) > 128))))))

def bondstoreref04_Disk_Write.u : WP := fun args K => match args with | [.pointer p1, .int .i64 n1, .string s1] => bondstoreref04_Disk_Write p1 n1 s1 K | _ => no

def bondstoreref04_Disk_Crash (p1 : Option Addr) (n1 : Int) (n2 : Int) (n3 : Int) (K : VK) : WK :=
nn p1 (fun a1 =>
ld (a1.add 1) (xL fun sb1 sn1 sc1 =>
(fun w1 => ∃ (I1 : List Value → World → Prop) (μ1 : List Value → World → Nat), I1 [.int .i64 (min2 (max2 n3 0) 128), .slice sb1 sn1 sc1, .int .i64 (sn1 : Int), .int .i64 0] w1 ∧
∀ (n4 : Int) (sb2 : Option Addr) (sn2 : Nat) (sc2 : Nat) (n5 : Int) (n6 : Int) (w2 : World), I1 [.int .i64 n4, .slice sb2 sn2 sc2, .int .i64 n5, .int .i64 n6] w2 → (
br (decide (n6 < n5)) (
ixs sb2 sn2 n6 1 (fun a2 =>
ld a2 (xI .i64 fun n7 =>
br (n6 == n2) (
tick (
nn p1 (fun a3 =>
ld (a3.add 0) (xL fun sb3 sn3 sc3 =>
nn p1 (fun a4 =>
ld (a4.add 2) (xL fun sb4 sn4 sc4 =>
ixs sb4 sn4 n6 1 (fun a5 =>
ld a5 (xS fun s1 =>
slStr s1 none (some n4) (fun s2 =>
nn p1 (fun a6 =>
ld (a6.add 0) (xL fun sb5 sn5 sc5 =>
ixs sb5 sn5 n7 1 (fun a7 =>
ld a7 (xS fun s3 =>
slStr s3 (some n4) none (fun s4 =>
chk (((s2.size + s4.size : Nat) : Int) ≤ 9223372036854775807) (
ixs sb3 sn3 n7 1 (fun a8 =>
st a8 (.string (s2 ++ s4)) (
(fun w3 => I1 [.int .i64 n4, .slice sb2 sn2 sc2, .int .i64 n5, .int .i64 (IntKind.i64.wrap (n6 + 1))] w3 ∧ μ1 [.int .i64 n4, .slice sb2 sn2 sc2, .int .i64 n5, .int .i64 (IntKind.i64.wrap (n6 + 1))] w3 < μ1 [.int .i64 n4, .slice sb2 sn2 sc2, .int .i64 n5, .int .i64 n6] w2)))))))))))))))))) (
chk ((0 : Int) ≤ (IntKind.u64.wrap (min2 n6 63))) (
chk ((2 : Int) ≠ 0) (
br (((shr .u64 n1 (IntKind.u64.wrap (min2 n6 63))).tmod (2 : Int)) == 1) (
tick (
nn p1 (fun a9 =>
ld (a9.add 0) (xL fun sb6 sn6 sc6 =>
nn p1 (fun a10 =>
ld (a10.add 2) (xL fun sb7 sn7 sc7 =>
ixs sb7 sn7 n6 1 (fun a11 =>
ld a11 (xS fun s5 =>
ixs sb6 sn6 n7 1 (fun a12 =>
st a12 (.string s5) (
(fun w4 => I1 [.int .i64 n4, .slice sb2 sn2 sc2, .int .i64 n5, .int .i64 (IntKind.i64.wrap (n6 + 1))] w4 ∧ μ1 [.int .i64 n4, .slice sb2 sn2 sc2, .int .i64 n5, .int .i64 (IntKind.i64.wrap (n6 + 1))] w4 < μ1 [.int .i64 n4, .slice sb2 sn2 sc2, .int .i64 n5, .int .i64 n6] w2))))))))))) (
(fun w5 => I1 [.int .i64 n4, .slice sb2 sn2 sc2, .int .i64 n5, .int .i64 (IntKind.i64.wrap (n6 + 1))] w5 ∧ μ1 [.int .i64 n4, .slice sb2 sn2 sc2, .int .i64 n5, .int .i64 (IntKind.i64.wrap (n6 + 1))] w5 < μ1 [.int .i64 n4, .slice sb2 sn2 sc2, .int .i64 n5, .int .i64 n6] w2)))))))) (
nn p1 (fun a13 =>
st (a13.add 1) (.slice none 0 0) (
nn p1 (fun a14 =>
st (a14.add 2) (.slice none 0 0) (
K (.tuple ⟨[]⟩))))))) w2)))

def bondstoreref04_Disk_Crash.u : WP := fun args K => match args with | [.pointer p1, .int .u64 n1, .int .i64 n2, .int .i64 n3] => bondstoreref04_Disk_Crash p1 n1 n2 n3 K | _ => no

def bondstoreref04_Disk_Sync (p1 : Option Addr) (K : VK) : WK :=
bondstoreref04_Disk_fails p1 (xB fun b1 =>
br b1 (
K (.int .i64 8)) (
bondstoreref04_Disk_Crash p1 18446744073709551615 (-1) 0 (x0
(K (.int .i64 0)))))

def bondstoreref04_Disk_Sync.u : WP := fun args K => match args with | [.pointer p1] => bondstoreref04_Disk_Sync p1 K | _ => no

def bondstorelaw04_does (p1 : Option Addr) (p2 : Option Addr) (cs1 : List Value) (K : VK) : WK :=
mk cs1 (fun r1 =>
ld ((⟨r1, 0, none⟩ : Addr).add 0) (xI .i64 fun n1 =>
br (n1 == 0) (
tick (
ld ((⟨r1, 0, none⟩ : Addr).add 1) (xI .i64 fun n2 =>
ld ((⟨r1, 0, none⟩ : Addr).add 2) (xS fun s1 =>
ld ((⟨r1, 0, none⟩ : Addr).add 1) (xI .i64 fun n3 =>
ld ((⟨r1, 0, none⟩ : Addr).add 2) (xS fun s2 =>
platter_Disk_Write p1 n2 s1 (xI .i64 fun n4 =>
kp ((⟨r1, 0, none⟩ : Addr).add 2) [.string s2] (
kp ((⟨r1, 0, none⟩ : Addr).add 1) [.int .i64 n3] (
bondstoreref04_Disk_Write p2 n3 s2 (xI .i64 fun n5 =>
K (.bool (n4 == n5)))))))))))) (
br (n1 == 1) (
platter_Disk_Sync p1 (xI .i64 fun n6 =>
bondstoreref04_Disk_Sync p2 (xI .i64 fun n7 =>
K (.bool (n6 == n7))))) (
br (n1 == 2) (
ld ((⟨r1, 0, none⟩ : Addr).add 3) (xI .u64 fun n8 =>
ld ((⟨r1, 0, none⟩ : Addr).add 1) (xI .i64 fun n9 =>
ld ((⟨r1, 0, none⟩ : Addr).add 4) (xI .i64 fun n10 =>
platter_Disk_Crash p1 n8 n9 n10 (x0
(ld ((⟨r1, 0, none⟩ : Addr).add 3) (xI .u64 fun n11 =>
ld ((⟨r1, 0, none⟩ : Addr).add 1) (xI .i64 fun n12 =>
ld ((⟨r1, 0, none⟩ : Addr).add 4) (xI .i64 fun n13 =>
bondstoreref04_Disk_Crash p2 n11 n12 n13 (x0
(nn p2 (fun a1 =>
st (a1.add 4) (.int .i64 0) (
K (.bool true)))))))))))))) (
br (n1 == 3) (
ld ((⟨r1, 0, none⟩ : Addr).add 1) (xI .i64 fun n14 =>
platter_Disk_Arm p1 n14 (x0
(ld ((⟨r1, 0, none⟩ : Addr).add 1) (xI .i64 fun n15 =>
nn p2 (fun a2 =>
st (a2.add 4) (.int .i64 (max2 n15 0)) (
K (.bool true)))))))) (
K (.bool true)))))))

def bondstorelaw04_does.u : WP := fun args K => match args with | [.pointer p1, .pointer p2, .agg ⟨cs1⟩] => bondstorelaw04_does p1 p2 cs1 K | _ => no

def platter_Disk_Later (p1 : Option Addr) (K : VK) : WK :=
br (p1.isNone) (
K (.int .i64 0)) (
nn p1 (fun a1 =>
ld (a1.add 1) (xL fun sb1 sn1 sc1 =>
K (.int .i64 (sn1 : Int)))))

def platter_Disk_Later.u : WP := fun args K => match args with | [.pointer p1] => platter_Disk_Later p1 K | _ => no

def bondstorelaw04_PlatterLasts.j1 (K : VK) (n1 : Int) (sb1 : Option Addr) (sn1 : Nat) (sc1 : Nat) (sb2 : Option Addr) (sn2 : Nat) (sc2 : Nat) (n2 : Int) (n3 : Int) (n4 : Int) (b2 : Bool) : WK :=
br b2 (
K (.bool true)) (
platter_New n1 (xP fun p1 =>
bondstoreref04_New n1 (xP fun p2 =>
(fun w1 => ∃ (I1 : List Value → World → Prop) (μ1 : List Value → World → Nat), I1 [.bool false, .pointer p1, .pointer p2, .slice sb1 sn1 sc1, .int .i64 (sn1 : Int), .int .i64 0] w1 ∧
∀ (b3 : Bool) (p3 : Option Addr) (p4 : Option Addr) (sb3 : Option Addr) (sn3 : Nat) (sc3 : Nat) (n5 : Int) (n6 : Int) (w2 : World), I1 [.bool b3, .pointer p3, .pointer p4, .slice sb3 sn3 sc3, .int .i64 n5, .int .i64 n6] w2 → (
br (decide (n6 < n5)) (
ixs sb3 sn3 n6 5 (fun a1 =>
ldN a1 5 (fun cs1 =>
mk [.int .i64 0, .int .i64 0, .string .empty, .int .u64 0, .int .i64 0] (fun r1 =>
chk (cs1.length = 5) (stN (⟨r1, 0, none⟩ : Addr) cs1 (
ldN (⟨r1, 0, none⟩ : Addr) 5 (fun cs2 =>
bondstorelaw04_does p3 p4 cs2 (xB fun b4 =>
(fun w3 => I1 [.bool b3, .pointer p3, .pointer p4, .slice sb3 sn3 sc3, .int .i64 n5, .int .i64 (IntKind.i64.wrap (n6 + 1))] w3 ∧ μ1 [.bool b3, .pointer p3, .pointer p4, .slice sb3 sn3 sc3, .int .i64 n5, .int .i64 (IntKind.i64.wrap (n6 + 1))] w3 < μ1 [.bool b3, .pointer p3, .pointer p4, .slice sb3 sn3 sc3, .int .i64 n5, .int .i64 n6] w2))))))))) (
platter_Disk_Arm p3 0 (x0
(platter_Disk_Sync p3 (xI .i64 fun n7 =>
br (n7 != 0) (
K (.bool false)) (
mkSl 16 [.string .empty] n1 n1 (fun sb4 sn4 sc4 =>
(fun w4 => ∃ (I2 : List Value → World → Prop) (μ2 : List Value → World → Nat), I2 [.bool b3, .pointer p3, .slice sb4 sn4 sc4, .int .i64 (sn4 : Int), .int .i64 0] w4 ∧
∀ (b5 : Bool) (p5 : Option Addr) (sb5 : Option Addr) (sn5 : Nat) (sc5 : Nat) (n8 : Int) (n9 : Int) (w5 : World), I2 [.bool b5, .pointer p5, .slice sb5 sn5 sc5, .int .i64 n8, .int .i64 n9] w5 → (
br (decide (n9 < n8)) (
platter_Disk_Read p5 n9 (x2 fun v1 v2 => (xS fun s1 =>
(xI .i64 fun n10 =>
ixs sb5 sn5 n9 1 (fun a2 =>
st a2 (.string s1) (
(fun w6 => I2 [.bool b5, .pointer p5, .slice sb5 sn5 sc5, .int .i64 n8, .int .i64 (IntKind.i64.wrap (n9 + 1))] w6 ∧ μ2 [.bool b5, .pointer p5, .slice sb5 sn5 sc5, .int .i64 n8, .int .i64 (IntKind.i64.wrap (n9 + 1))] w6 < μ2 [.bool b5, .pointer p5, .slice sb5 sn5 sc5, .int .i64 n8, .int .i64 n9] w5)))) v2) v1)) (
mkSl 1 [.bool false] n1 n1 (fun sb6 sn6 sc6 =>
(fun w7 => ∃ (I3 : List Value → World → Prop) (μ3 : List Value → World → Nat), I3 [.bool b5, .pointer p5, .slice sb5 sn5 sc5, .slice sb6 sn6 sc6, .slice sb2 sn2 sc2, .int .i64 (sn2 : Int), .int .i64 0] w7 ∧
∀ (b6 : Bool) (p6 : Option Addr) (sb7 : Option Addr) (sn7 : Nat) (sc7 : Nat) (sb8 : Option Addr) (sn8 : Nat) (sc8 : Nat) (sb9 : Option Addr) (sn9 : Nat) (sc9 : Nat) (n11 : Int) (n12 : Int) (w8 : World), I3 [.bool b6, .pointer p6, .slice sb7 sn7 sc7, .slice sb8 sn8 sc8, .slice sb9 sn9 sc9, .int .i64 n11, .int .i64 n12] w8 → (
br (decide (n12 < n11)) (
ixs sb9 sn9 n12 5 (fun a3 =>
ldN a3 5 (fun cs3 =>
mk [.int .i64 0, .int .i64 0, .string .empty, .int .u64 0, .int .i64 0] (fun r2 =>
chk (cs3.length = 5) (stN (⟨r2, 0, none⟩ : Addr) cs3 (
ld ((⟨r2, 0, none⟩ : Addr).add 0) (xI .i64 fun n13 =>
br (n13 == 0) (
ld ((⟨r2, 0, none⟩ : Addr).add 1) (xI .i64 fun n14 =>
ld ((⟨r2, 0, none⟩ : Addr).add 2) (xS fun s2 =>
platter_Disk_Write p6 n14 s2 (xI .i64 fun n15 =>
br (n15 == 0) (
ld ((⟨r2, 0, none⟩ : Addr).add 1) (xI .i64 fun n16 =>
ixs sb8 sn8 n16 1 (fun a4 =>
st a4 (.bool true) (
(fun w9 => I3 [.bool b6, .pointer p6, .slice sb7 sn7 sc7, .slice sb8 sn8 sc8, .slice sb9 sn9 sc9, .int .i64 n11, .int .i64 (IntKind.i64.wrap (n12 + 1))] w9 ∧ μ3 [.bool b6, .pointer p6, .slice sb7 sn7 sc7, .slice sb8 sn8 sc8, .slice sb9 sn9 sc9, .int .i64 n11, .int .i64 (IntKind.i64.wrap (n12 + 1))] w9 < μ3 [.bool b6, .pointer p6, .slice sb7 sn7 sc7, .slice sb8 sn8 sc8, .slice sb9 sn9 sc9, .int .i64 n11, .int .i64 n12] w8))))) (
(fun w10 => I3 [.bool b6, .pointer p6, .slice sb7 sn7 sc7, .slice sb8 sn8 sc8, .slice sb9 sn9 sc9, .int .i64 n11, .int .i64 (IntKind.i64.wrap (n12 + 1))] w10 ∧ μ3 [.bool b6, .pointer p6, .slice sb7 sn7 sc7, .slice sb8 sn8 sc8, .slice sb9 sn9 sc9, .int .i64 n11, .int .i64 (IntKind.i64.wrap (n12 + 1))] w10 < μ3 [.bool b6, .pointer p6, .slice sb7 sn7 sc7, .slice sb8 sn8 sc8, .slice sb9 sn9 sc9, .int .i64 n11, .int .i64 n12] w8)))))) (
(fun w11 => I3 [.bool b6, .pointer p6, .slice sb7 sn7 sc7, .slice sb8 sn8 sc8, .slice sb9 sn9 sc9, .int .i64 n11, .int .i64 (IntKind.i64.wrap (n12 + 1))] w11 ∧ μ3 [.bool b6, .pointer p6, .slice sb7 sn7 sc7, .slice sb8 sn8 sc8, .slice sb9 sn9 sc9, .int .i64 n11, .int .i64 (IntKind.i64.wrap (n12 + 1))] w11 < μ3 [.bool b6, .pointer p6, .slice sb7 sn7 sc7, .slice sb8 sn8 sc8, .slice sb9 sn9 sc9, .int .i64 n11, .int .i64 n12] w8))))))))) (
platter_Disk_Crash p6 n2 n3 n4 (x0
((fun w12 => ∃ (I4 : List Value → World → Prop) (μ4 : List Value → World → Nat), I4 [.bool b6, .pointer p6, .slice sb7 sn7 sc7, .slice sb8 sn8 sc8, .int .i64 (sn7 : Int), .int .i64 0] w12 ∧
∀ (b8 : Bool) (p7 : Option Addr) (sb10 : Option Addr) (sn10 : Nat) (sc10 : Nat) (sb11 : Option Addr) (sn11 : Nat) (sc11 : Nat) (n17 : Int) (n18 : Int) (w13 : World), I4 [.bool b8, .pointer p7, .slice sb10 sn10 sc10, .slice sb11 sn11 sc11, .int .i64 n17, .int .i64 n18] w13 → (
br (decide (n18 < n17)) (
platter_Disk_Read p7 n18 (x2 fun v3 v4 => (xS fun s3 =>
(xI .i64 fun n19 =>
ixs sb11 sn11 n18 1 (fun a5 =>
ld a5 (xB fun b9 =>
br (!b9) (
ixs sb10 sn10 n18 1 (fun a6 =>
ld a6 (xS fun s4 =>
br (!(strEq s3 s4)) (
K (.bool false)) (
(fun w14 => I4 [.bool b8, .pointer p7, .slice sb10 sn10 sc10, .slice sb11 sn11 sc11, .int .i64 n17, .int .i64 (IntKind.i64.wrap (n18 + 1))] w14 ∧ μ4 [.bool b8, .pointer p7, .slice sb10 sn10 sc10, .slice sb11 sn11 sc11, .int .i64 n17, .int .i64 (IntKind.i64.wrap (n18 + 1))] w14 < μ4 [.bool b8, .pointer p7, .slice sb10 sn10 sc10, .slice sb11 sn11 sc11, .int .i64 n17, .int .i64 n18] w13))))) (
(fun w15 => I4 [.bool b8, .pointer p7, .slice sb10 sn10 sc10, .slice sb11 sn11 sc11, .int .i64 n17, .int .i64 (IntKind.i64.wrap (n18 + 1))] w15 ∧ μ4 [.bool b8, .pointer p7, .slice sb10 sn10 sc10, .slice sb11 sn11 sc11, .int .i64 n17, .int .i64 (IntKind.i64.wrap (n18 + 1))] w15 < μ4 [.bool b8, .pointer p7, .slice sb10 sn10 sc10, .slice sb11 sn11 sc11, .int .i64 n17, .int .i64 n18] w13))))) v4) v3)) (
platter_Disk_Later p7 (xI .i64 fun n20 =>
K (.bool (n20 == 0))))) w13))))) w8)))) w5)))))))) w2))))

def bondstorelaw04_PlatterLasts (n1 : Int) (sb1 : Option Addr) (sn1 : Nat) (sc1 : Nat) (sb2 : Option Addr) (sn2 : Nat) (sc2 : Nat) (n2 : Int) (n3 : Int) (n4 : Int) (K : VK) : WK :=
bondstorelaw04_alive (xB fun b1 =>
br (!b1) (
K (.bool false)) (
bondstorelaw04_great sb1 sn1 sc1 (xB fun b10 =>
br b10 (
bondstorelaw04_PlatterLasts.j1 K n1 sb1 sn1 sc1 sb2 sn2 sc2 n2 n3 n4 true) (
bondstorelaw04_great sb2 sn2 sc2 (xB fun b11 =>
br b11 (
bondstorelaw04_PlatterLasts.j1 K n1 sb1 sn1 sc1 sb2 sn2 sc2 n2 n3 n4 true) (
br (decide (n1 < 0)) (
bondstorelaw04_PlatterLasts.j1 K n1 sb1 sn1 sc1 sb2 sn2 sc2 n2 n3 n4 true) (
bondstorelaw04_PlatterLasts.j1 K n1 sb1 sn1 sc1 sb2 sn2 sc2 n2 n3 n4 (decide (n1 > 40)))))))))

def bondstorelaw04_PlatterLasts.u : WP := fun args K => match args with | [.int .i64 n1, .slice sb1 sn1 sc1, .slice sb2 sn2 sc2, .int .u64 n2, .int .i64 n3, .int .i64 n4] => bondstorelaw04_PlatterLasts n1 sb1 sn1 sc1 sb2 sn2 sc2 n2 n3 n4 K | _ => no

def bondstorelaw04_PlatterFails.j2 (K : VK) (n3 : Int) (n2 : Int) (p3 : Option Addr) (p4 : Option Addr) (I1 : List Value → World → Prop) (b3 : Bool) (sb2 : Option Addr) (sn2 : Nat) (sc2 : Nat) (n4 : Int) (n5 : Int) (μ1 : List Value → World → Nat) (w2 : World) (n10 : Int) : WK :=
br (!((n10 == 8) == ((IntKind.i64.wrap (n3 + 1)) == n2))) (
K (.bool false)) (
platter_Disk_Later p3 (xI .i64 fun n11 =>
platter_Disk_Later p4 (xI .i64 fun n12 =>
br (n11 != n12) (
K (.bool false)) (
(fun w7 => I1 [.bool b3, .pointer p3, .pointer p4, .int .i64 (IntKind.i64.wrap (n3 + 1)), .slice sb2 sn2 sc2, .int .i64 n4, .int .i64 (IntKind.i64.wrap (n5 + 1))] w7 ∧ μ1 [.bool b3, .pointer p3, .pointer p4, .int .i64 (IntKind.i64.wrap (n3 + 1)), .slice sb2 sn2 sc2, .int .i64 n4, .int .i64 (IntKind.i64.wrap (n5 + 1))] w7 < μ1 [.bool b3, .pointer p3, .pointer p4, .int .i64 n3, .slice sb2 sn2 sc2, .int .i64 n4, .int .i64 n5] w2)))))

def bondstorelaw04_PlatterFails.j3 (K : VK) (n3 : Int) (n2 : Int) (p3 : Option Addr) (p4 : Option Addr) (I1 : List Value → World → Prop) (b3 : Bool) (sb2 : Option Addr) (sn2 : Nat) (sc2 : Nat) (n4 : Int) (n5 : Int) (μ1 : List Value → World → Nat) (w2 : World) (n21 : Int) : WK :=
br (!((n21 == 8) == ((IntKind.i64.wrap (n3 + 1)) == n2))) (
K (.bool false)) (
platter_Disk_Later p3 (xI .i64 fun n22 =>
platter_Disk_Later p4 (xI .i64 fun n23 =>
br (n22 != n23) (
K (.bool false)) (
(fun w9 => I1 [.bool b3, .pointer p3, .pointer p4, .int .i64 (IntKind.i64.wrap (n3 + 1)), .slice sb2 sn2 sc2, .int .i64 n4, .int .i64 (IntKind.i64.wrap (n5 + 1))] w9 ∧ μ1 [.bool b3, .pointer p3, .pointer p4, .int .i64 (IntKind.i64.wrap (n3 + 1)), .slice sb2 sn2 sc2, .int .i64 n4, .int .i64 (IntKind.i64.wrap (n5 + 1))] w9 < μ1 [.bool b3, .pointer p3, .pointer p4, .int .i64 n3, .slice sb2 sn2 sc2, .int .i64 n4, .int .i64 n5] w2)))))

def bondstorelaw04_PlatterFails.j1 (K : VK) (n1 : Int) (n2 : Int) (sb1 : Option Addr) (sn1 : Nat) (sc1 : Nat) (b2 : Bool) : WK :=
br b2 (
K (.bool true)) (
platter_New n1 (xP fun p1 =>
platter_New n1 (xP fun p2 =>
platter_Disk_Arm p1 n2 (x0
((fun w1 => ∃ (I1 : List Value → World → Prop) (μ1 : List Value → World → Nat), I1 [.bool false, .pointer p1, .pointer p2, .int .i64 0, .slice sb1 sn1 sc1, .int .i64 (sn1 : Int), .int .i64 0] w1 ∧
∀ (b3 : Bool) (p3 : Option Addr) (p4 : Option Addr) (n3 : Int) (sb2 : Option Addr) (sn2 : Nat) (sc2 : Nat) (n4 : Int) (n5 : Int) (w2 : World), I1 [.bool b3, .pointer p3, .pointer p4, .int .i64 n3, .slice sb2 sn2 sc2, .int .i64 n4, .int .i64 n5] w2 → (
br (decide (n5 < n4)) (
ixs sb2 sn2 n5 5 (fun a1 =>
ldN a1 5 (fun cs1 =>
mk [.int .i64 0, .int .i64 0, .string .empty, .int .u64 0, .int .i64 0] (fun r1 =>
chk (cs1.length = 5) (stN (⟨r1, 0, none⟩ : Addr) cs1 (
ld ((⟨r1, 0, none⟩ : Addr).add 0) (xI .i64 fun n6 =>
br (n6 == 0) (
ld ((⟨r1, 0, none⟩ : Addr).add 1) (xI .i64 fun n7 =>
br (decide (n7 < 0)) (
(fun w3 => I1 [.bool b3, .pointer p3, .pointer p4, .int .i64 n3, .slice sb2 sn2 sc2, .int .i64 n4, .int .i64 (IntKind.i64.wrap (n5 + 1))] w3 ∧ μ1 [.bool b3, .pointer p3, .pointer p4, .int .i64 n3, .slice sb2 sn2 sc2, .int .i64 n4, .int .i64 (IntKind.i64.wrap (n5 + 1))] w3 < μ1 [.bool b3, .pointer p3, .pointer p4, .int .i64 n3, .slice sb2 sn2 sc2, .int .i64 n4, .int .i64 n5] w2)) (
ld ((⟨r1, 0, none⟩ : Addr).add 1) (xI .i64 fun n8 =>
br (decide (n8 ≥ n1)) (
(fun w4 => I1 [.bool b3, .pointer p3, .pointer p4, .int .i64 n3, .slice sb2 sn2 sc2, .int .i64 n4, .int .i64 (IntKind.i64.wrap (n5 + 1))] w4 ∧ μ1 [.bool b3, .pointer p3, .pointer p4, .int .i64 n3, .slice sb2 sn2 sc2, .int .i64 n4, .int .i64 (IntKind.i64.wrap (n5 + 1))] w4 < μ1 [.bool b3, .pointer p3, .pointer p4, .int .i64 n3, .slice sb2 sn2 sc2, .int .i64 n4, .int .i64 n5] w2)) (
ld ((⟨r1, 0, none⟩ : Addr).add 2) (xS fun s1 =>
br (decide ((s1.size : Int) > 128)) (
(fun w5 => I1 [.bool b3, .pointer p3, .pointer p4, .int .i64 n3, .slice sb2 sn2 sc2, .int .i64 n4, .int .i64 (IntKind.i64.wrap (n5 + 1))] w5 ∧ μ1 [.bool b3, .pointer p3, .pointer p4, .int .i64 n3, .slice sb2 sn2 sc2, .int .i64 n4, .int .i64 (IntKind.i64.wrap (n5 + 1))] w5 < μ1 [.bool b3, .pointer p3, .pointer p4, .int .i64 n3, .slice sb2 sn2 sc2, .int .i64 n4, .int .i64 n5] w2)) (
ld ((⟨r1, 0, none⟩ : Addr).add 0) (xI .i64 fun n9 =>
br (decide (n9 > 1)) (
(fun w6 => I1 [.bool b3, .pointer p3, .pointer p4, .int .i64 n3, .slice sb2 sn2 sc2, .int .i64 n4, .int .i64 (IntKind.i64.wrap (n5 + 1))] w6 ∧ μ1 [.bool b3, .pointer p3, .pointer p4, .int .i64 n3, .slice sb2 sn2 sc2, .int .i64 n4, .int .i64 (IntKind.i64.wrap (n5 + 1))] w6 < μ1 [.bool b3, .pointer p3, .pointer p4, .int .i64 n3, .slice sb2 sn2 sc2, .int .i64 n4, .int .i64 n5] w2)) (
ld ((⟨r1, 0, none⟩ : Addr).add 0) (xI .i64 fun n13 =>
br (n13 == 0) (
ld ((⟨r1, 0, none⟩ : Addr).add 1) (xI .i64 fun n14 =>
ld ((⟨r1, 0, none⟩ : Addr).add 2) (xS fun s2 =>
platter_Disk_Write p3 n14 s2 (xI .i64 fun n15 =>
br ((IntKind.i64.wrap (n3 + 1)) != n2) (
ld ((⟨r1, 0, none⟩ : Addr).add 1) (xI .i64 fun n16 =>
ld ((⟨r1, 0, none⟩ : Addr).add 2) (xS fun s3 =>
platter_Disk_Write p4 n16 s3 (xI .i64 fun n17 =>
bondstorelaw04_PlatterFails.j2 K n3 n2 p3 p4 I1 b3 sb2 sn2 sc2 n4 n5 μ1 w2 n15)))) (
bondstorelaw04_PlatterFails.j2 K n3 n2 p3 p4 I1 b3 sb2 sn2 sc2 n4 n5 μ1 w2 n15))))) (
platter_Disk_Sync p3 (xI .i64 fun n18 =>
br ((IntKind.i64.wrap (n3 + 1)) != n2) (
platter_Disk_Sync p4 (xI .i64 fun n19 =>
bondstorelaw04_PlatterFails.j2 K n3 n2 p3 p4 I1 b3 sb2 sn2 sc2 n4 n5 μ1 w2 n18)) (
bondstorelaw04_PlatterFails.j2 K n3 n2 p3 p4 I1 b3 sb2 sn2 sc2 n4 n5 μ1 w2 n18))))))))))))) (
ld ((⟨r1, 0, none⟩ : Addr).add 0) (xI .i64 fun n20 =>
br (decide (n20 > 1)) (
(fun w8 => I1 [.bool b3, .pointer p3, .pointer p4, .int .i64 n3, .slice sb2 sn2 sc2, .int .i64 n4, .int .i64 (IntKind.i64.wrap (n5 + 1))] w8 ∧ μ1 [.bool b3, .pointer p3, .pointer p4, .int .i64 n3, .slice sb2 sn2 sc2, .int .i64 n4, .int .i64 (IntKind.i64.wrap (n5 + 1))] w8 < μ1 [.bool b3, .pointer p3, .pointer p4, .int .i64 n3, .slice sb2 sn2 sc2, .int .i64 n4, .int .i64 n5] w2)) (
ld ((⟨r1, 0, none⟩ : Addr).add 0) (xI .i64 fun n24 =>
br (n24 == 0) (
ld ((⟨r1, 0, none⟩ : Addr).add 1) (xI .i64 fun n25 =>
ld ((⟨r1, 0, none⟩ : Addr).add 2) (xS fun s4 =>
platter_Disk_Write p3 n25 s4 (xI .i64 fun n26 =>
br ((IntKind.i64.wrap (n3 + 1)) != n2) (
ld ((⟨r1, 0, none⟩ : Addr).add 1) (xI .i64 fun n27 =>
ld ((⟨r1, 0, none⟩ : Addr).add 2) (xS fun s5 =>
platter_Disk_Write p4 n27 s5 (xI .i64 fun n28 =>
bondstorelaw04_PlatterFails.j3 K n3 n2 p3 p4 I1 b3 sb2 sn2 sc2 n4 n5 μ1 w2 n26)))) (
bondstorelaw04_PlatterFails.j3 K n3 n2 p3 p4 I1 b3 sb2 sn2 sc2 n4 n5 μ1 w2 n26))))) (
platter_Disk_Sync p3 (xI .i64 fun n29 =>
br ((IntKind.i64.wrap (n3 + 1)) != n2) (
platter_Disk_Sync p4 (xI .i64 fun n30 =>
bondstorelaw04_PlatterFails.j3 K n3 n2 p3 p4 I1 b3 sb2 sn2 sc2 n4 n5 μ1 w2 n29)) (
bondstorelaw04_PlatterFails.j3 K n3 n2 p3 p4 I1 b3 sb2 sn2 sc2 n4 n5 μ1 w2 n29)))))))))))))) (
(fun w10 => ∃ (I2 : List Value → World → Prop) (μ2 : List Value → World → Nat), I2 [.bool b3, .pointer p3, .pointer p4, .int .i64 0] w10 ∧
∀ (b6 : Bool) (p5 : Option Addr) (p6 : Option Addr) (n31 : Int) (w11 : World), I2 [.bool b6, .pointer p5, .pointer p6, .int .i64 n31] w11 → (
br (decide (n31 < n1)) (
platter_Disk_Read p5 n31 (x2 fun v1 v2 => (xS fun s6 =>
(xI .i64 fun n32 =>
platter_Disk_Read p6 n31 (x2 fun v3 v4 => (xS fun s7 =>
(xI .i64 fun n33 =>
br (!(strEq s6 s7)) (
K (.bool false)) (
(fun w12 => I2 [.bool b6, .pointer p5, .pointer p6, .int .i64 (IntKind.i64.wrap (n31 + 1))] w12 ∧ μ2 [.bool b6, .pointer p5, .pointer p6, .int .i64 (IntKind.i64.wrap (n31 + 1))] w12 < μ2 [.bool b6, .pointer p5, .pointer p6, .int .i64 n31] w11))) v4) v3)) v2) v1)) (
K (.bool true))) w11))) w2))))))

def bondstorelaw04_PlatterFails (n1 : Int) (sb1 : Option Addr) (sn1 : Nat) (sc1 : Nat) (n2 : Int) (K : VK) : WK :=
bondstorelaw04_alive (xB fun b1 =>
br (!b1) (
K (.bool false)) (
bondstorelaw04_great sb1 sn1 sc1 (xB fun b7 =>
br b7 (
bondstorelaw04_PlatterFails.j1 K n1 n2 sb1 sn1 sc1 true) (
br (decide (n1 < 0)) (
bondstorelaw04_PlatterFails.j1 K n1 n2 sb1 sn1 sc1 true) (
br (decide (n1 > 40)) (
bondstorelaw04_PlatterFails.j1 K n1 n2 sb1 sn1 sc1 true) (
bondstorelaw04_PlatterFails.j1 K n1 n2 sb1 sn1 sc1 (decide (n2 < 1))))))))

def bondstorelaw04_PlatterFails.u : WP := fun args K => match args with | [.int .i64 n1, .slice sb1 sn1 sc1, .int .i64 n2] => bondstorelaw04_PlatterFails n1 sb1 sn1 sc1 n2 K | _ => no

def platter_Disk_Ops (p1 : Option Addr) (K : VK) : WK :=
br (p1.isNone) (
K (.int .i64 0)) (
nn p1 (fun a1 =>
ld (a1.add 2) (xI .i64 fun n1 =>
K (.int .i64 n1))))

def platter_Disk_Ops.u : WP := fun args K => match args with | [.pointer p1] => platter_Disk_Ops p1 K | _ => no

def bondstoreref04_Disk_Now (p1 : Option Addr) (n1 : Int) (K : VK) : WK :=
nn p1 (fun a1 =>
ld (a1.add 0) (xL fun sb1 sn1 sc1 =>
ixs sb1 sn1 n1 1 (fun a2 =>
ld a2 (xS fun s1 =>
nn p1 (fun a3 =>
ld (a3.add 1) (xL fun sb2 sn2 sc2 =>
(fun w1 => ∃ (I1 : List Value → World → Prop) (μ1 : List Value → World → Nat), I1 [.string .empty, .string s1, .slice sb2 sn2 sc2, .int .i64 (sn2 : Int), .int .i64 0] w1 ∧
∀ (s2 : ByteArray) (s3 : ByteArray) (sb3 : Option Addr) (sn3 : Nat) (sc3 : Nat) (n2 : Int) (n3 : Int) (w2 : World), I1 [.string s2, .string s3, .slice sb3 sn3 sc3, .int .i64 n2, .int .i64 n3] w2 → (
br (decide (n3 < n2)) (
ixs sb3 sn3 n3 1 (fun a4 =>
ld a4 (xI .i64 fun n4 =>
br (n4 == n1) (
nn p1 (fun a5 =>
ld (a5.add 2) (xL fun sb4 sn4 sc4 =>
ixs sb4 sn4 n3 1 (fun a6 =>
ld a6 (xS fun s4 =>
(fun w3 => I1 [.string s2, .string s4, .slice sb3 sn3 sc3, .int .i64 n2, .int .i64 (IntKind.i64.wrap (n3 + 1))] w3 ∧ μ1 [.string s2, .string s4, .slice sb3 sn3 sc3, .int .i64 n2, .int .i64 (IntKind.i64.wrap (n3 + 1))] w3 < μ1 [.string s2, .string s3, .slice sb3 sn3 sc3, .int .i64 n2, .int .i64 n3] w2)))))) (
(fun w4 => I1 [.string s2, .string s3, .slice sb3 sn3 sc3, .int .i64 n2, .int .i64 (IntKind.i64.wrap (n3 + 1))] w4 ∧ μ1 [.string s2, .string s3, .slice sb3 sn3 sc3, .int .i64 n2, .int .i64 (IntKind.i64.wrap (n3 + 1))] w4 < μ1 [.string s2, .string s3, .slice sb3 sn3 sc3, .int .i64 n2, .int .i64 n3] w2))))) (
K (.string s3))) w2)))))))

def bondstoreref04_Disk_Now.u : WP := fun args K => match args with | [.pointer p1, .int .i64 n1] => bondstoreref04_Disk_Now p1 n1 K | _ => no

def bondstorelaw04_same.j1 (K : VK) (p2 : Option Addr) (p1 : Option Addr) (b1 : Bool) : WK :=
br b1 (
K (.bool false)) (
nn p2 (fun a1 =>
ld (a1.add 0) (xL fun sb1 sn1 sc1 =>
(fun w1 => ∃ (I1 : List Value → World → Prop) (μ1 : List Value → World → Nat), I1 [.bool false, .int .i64 (sn1 : Int), .int .i64 0] w1 ∧
∀ (b2 : Bool) (n1 : Int) (n2 : Int) (w2 : World), I1 [.bool b2, .int .i64 n1, .int .i64 n2] w2 → (
br (decide (n2 < n1)) (
platter_Disk_Read p1 n2 (x2 fun v1 v2 => (xS fun s1 =>
(xI .i64 fun n3 =>
br (n3 != 0) (
K (.bool false)) (
bondstoreref04_Disk_Now p2 n2 (xS fun s2 =>
br (!(strEq s1 s2)) (
K (.bool false)) (
(fun w3 => I1 [.bool b2, .int .i64 n1, .int .i64 (IntKind.i64.wrap (n2 + 1))] w3 ∧ μ1 [.bool b2, .int .i64 n1, .int .i64 (IntKind.i64.wrap (n2 + 1))] w3 < μ1 [.bool b2, .int .i64 n1, .int .i64 n2] w2))))) v2) v1)) (
K (.bool true))) w2))))

def bondstorelaw04_same (p1 : Option Addr) (p2 : Option Addr) (K : VK) : WK :=
tick (
nn p2 (fun a2 =>
ld (a2.add 0) (xL fun sb2 sn2 sc2 =>
platter_Disk_Sectors p1 (xI .i64 fun n4 =>
kp (a2.add 0) [.slice sb2 sn2 sc2] (
br (n4 != (sn2 : Int)) (
bondstorelaw04_same.j1 K p2 p1 true) (
nn p2 (fun a3 =>
ld (a3.add 1) (xL fun sb3 sn3 sc3 =>
platter_Disk_Later p1 (xI .i64 fun n5 =>
kp (a3.add 1) [.slice sb3 sn3 sc3] (
kp (a2.add 0) [.slice sb2 sn2 sc2] (
br (n5 != (sn3 : Int)) (
bondstorelaw04_same.j1 K p2 p1 true) (
nn p2 (fun a4 =>
ld (a4.add 3) (xI .i64 fun n6 =>
platter_Disk_Ops p1 (xI .i64 fun n7 =>
kp (a4.add 3) [.int .i64 n6] (
kp (a3.add 1) [.slice sb3 sn3 sc3] (
kp (a2.add 0) [.slice sb2 sn2 sc2] (
bondstorelaw04_same.j1 K p2 p1 (n7 != n6)))))))))))))))))))

def bondstorelaw04_same.u : WP := fun args K => match args with | [.pointer p1, .pointer p2] => bondstorelaw04_same p1 p2 K | _ => no

def bondstorelaw04_PlatterDoes.j1 (K : VK) (n1 : Int) (sb1 : Option Addr) (sn1 : Nat) (sc1 : Nat) (b2 : Bool) : WK :=
br b2 (
K (.bool true)) (
platter_New n1 (xP fun p1 =>
bondstoreref04_New n1 (xP fun p2 =>
(fun w1 => ∃ (I1 : List Value → World → Prop) (μ1 : List Value → World → Nat), I1 [.bool false, .pointer p1, .pointer p2, .slice sb1 sn1 sc1, .int .i64 (sn1 : Int), .int .i64 0] w1 ∧
∀ (b3 : Bool) (p3 : Option Addr) (p4 : Option Addr) (sb2 : Option Addr) (sn2 : Nat) (sc2 : Nat) (n2 : Int) (n3 : Int) (w2 : World), I1 [.bool b3, .pointer p3, .pointer p4, .slice sb2 sn2 sc2, .int .i64 n2, .int .i64 n3] w2 → (
br (decide (n3 < n2)) (
ixs sb2 sn2 n3 5 (fun a1 =>
ldN a1 5 (fun cs1 =>
mk [.int .i64 0, .int .i64 0, .string .empty, .int .u64 0, .int .i64 0] (fun r1 =>
chk (cs1.length = 5) (stN (⟨r1, 0, none⟩ : Addr) cs1 (
ldN (⟨r1, 0, none⟩ : Addr) 5 (fun cs2 =>
bondstorelaw04_does p3 p4 cs2 (xB fun b4 =>
br (!b4) (
K (.bool false)) (
bondstorelaw04_same p3 p4 (xB fun b5 =>
br (!b5) (
K (.bool false)) (
(fun w3 => I1 [.bool b3, .pointer p3, .pointer p4, .slice sb2 sn2 sc2, .int .i64 n2, .int .i64 (IntKind.i64.wrap (n3 + 1))] w3 ∧ μ1 [.bool b3, .pointer p3, .pointer p4, .slice sb2 sn2 sc2, .int .i64 n2, .int .i64 (IntKind.i64.wrap (n3 + 1))] w3 < μ1 [.bool b3, .pointer p3, .pointer p4, .slice sb2 sn2 sc2, .int .i64 n2, .int .i64 n3] w2)))))))))))) (
nn p4 (fun a2 =>
ld (a2.add 0) (xL fun sb3 sn3 sc3 =>
platter_Disk_Read p3 (sn3 : Int) (x2 fun v1 v2 => (xS fun s1 =>
(xI .i64 fun n4 =>
platter_Disk_Read p3 (-1) (x2 fun v3 v4 => (xS fun s2 =>
(xI .i64 fun n5 =>
platter_Disk_Crash none 1 1 1 (x0
(platter_Disk_Arm none 1 (x0
(platter_Disk_Read none 0 (x2 fun v5 v6 => (xS fun s3 =>
(xI .i64 fun n6 =>
br (n4 == 1) (
br (n5 == 1) (
br (n6 == 2) (
platter_Disk_Write none 0 (⟨#[]⟩ : ByteArray) (xI .i64 fun n7 =>
br (n7 == 2) (
platter_Disk_Sync none (xI .i64 fun n8 =>
br (n8 == 2) (
platter_Disk_Sectors none (xI .i64 fun n9 =>
platter_Disk_Later none (xI .i64 fun n10 =>
platter_Disk_Ops none (xI .i64 fun n11 =>
K (.bool ((IntKind.i64.wrap ((IntKind.i64.wrap (n9 + n10)) + n11)) == 0)))))) (
K (.bool false)))) (
K (.bool false)))) (
K (.bool false))) (
K (.bool false))) (
K (.bool false))) v6) v5)))))) v4) v3)) v2) v1))))) w2))))

def bondstorelaw04_PlatterDoes (n1 : Int) (sb1 : Option Addr) (sn1 : Nat) (sc1 : Nat) (K : VK) : WK :=
bondstorelaw04_alive (xB fun b1 =>
br (!b1) (
K (.bool false)) (
bondstorelaw04_great sb1 sn1 sc1 (xB fun b6 =>
br b6 (
bondstorelaw04_PlatterDoes.j1 K n1 sb1 sn1 sc1 true) (
bondstorelaw04_PlatterDoes.j1 K n1 sb1 sn1 sc1 (decide (n1 > 40))))))

def bondstorelaw04_PlatterDoes.u : WP := fun args K => match args with | [.int .i64 n1, .slice sb1 sn1 sc1] => bondstorelaw04_PlatterDoes n1 sb1 sn1 sc1 K | _ => no

def stamp_Count (n1 : Int) (K : VK) : WK :=
chk ((104 : Int) ≠ 0) (
chk ((104 : Int) ≠ 0) (
K (.int .i64 (max2 (IntKind.i64.wrap ((IntKind.i64.wrap ((max2 n1 0).tdiv (104 : Int))) + (min2 ((max2 n1 0).tmod (104 : Int)) 1))) 1))))

def stamp_Count.u : WP := fun args K => match args with | [.int .i64 n1] => stamp_Count n1 K | _ => no

def stamp_good (cs1 : List Value) (K : VK) : WK :=
mk cs1 (fun r1 =>
ld ((⟨r1, 0, none⟩ : Addr).add 0) (xI .i64 fun n1 =>
br (decide (n1 ≥ 1)) (
ld ((⟨r1, 0, none⟩ : Addr).add 0) (xI .i64 fun n2 =>
br (decide (n2 ≤ 1152921504606846976)) (
ld ((⟨r1, 0, none⟩ : Addr).add 1) (xI .i64 fun n3 =>
br (decide (n3 ≥ 0)) (
ld ((⟨r1, 0, none⟩ : Addr).add 1) (xI .i64 fun n4 =>
br (decide (n4 < 4096)) (
ld ((⟨r1, 0, none⟩ : Addr).add 2) (xS fun s1 =>
K (.bool (decide ((s1.size : Int) ≤ 104))))) (
K (.bool false)))) (
K (.bool false)))) (
K (.bool false)))) (
K (.bool false))))

def stamp_good.u : WP := fun args K => match args with | [.agg ⟨cs1⟩] => stamp_good cs1 K | _ => no

def tape_Writer_Int (p1 : Option Addr) (n1 : Int) (n2 : Int) (K : VK) : WK :=
(fun w1 => ∃ (I1 : List Value → World → Prop) (μ1 : List Value → World → Nat), I1 [.int .i64 (min2 (max2 n1 1) 8), .int .i64 0] w1 ∧
∀ (n3 : Int) (n4 : Int) (w2 : World), I1 [.int .i64 n3, .int .i64 n4] w2 → (
br (decide (n4 < n3)) (
tick (
nn p1 (fun a1 =>
ld (a1.add 0) (xL fun sb1 sn1 sc1 =>
chk ((0 : Int) ≤ (IntKind.i64.wrap (8 * n4))) (
chk (1 = 1 ∧ True) (mk [.int .u8 (IntKind.u8.wrap (shr .i64 n2 (IntKind.i64.wrap (8 * n4))))] (fun r1 =>
kp (a1.add 0) [.slice sb1 sn1 sc1] (
appSl 1 1 [.int .u8 0] sb1 sn1 sc1 (some ⟨r1, 0, none⟩) 1 (fun sb2 sn2 sc2 =>
nn p1 (fun a2 =>
st (a2.add 0) (.slice sb2 sn2 sc2) (
(fun w3 => I1 [.int .i64 n3, .int .i64 (IntKind.i64.wrap (n4 + 1))] w3 ∧ μ1 [.int .i64 n3, .int .i64 (IntKind.i64.wrap (n4 + 1))] w3 < μ1 [.int .i64 n3, .int .i64 n4] w2)))))))))))) (
K (.tuple ⟨[]⟩))) w2)

def tape_Writer_Int.u : WP := fun args K => match args with | [.pointer p1, .int .i64 n1, .int .i64 n2] => tape_Writer_Int p1 n1 n2 K | _ => no

def tape_Writer_Raw (p1 : Option Addr) (s1 : ByteArray) (K : VK) : WK :=
nn p1 (fun a1 =>
ld (a1.add 0) (xL fun sb1 sn1 sc1 =>
appStr sb1 sn1 sc1 s1 (fun sb2 sn2 sc2 =>
nn p1 (fun a2 =>
st (a2.add 0) (.slice sb2 sn2 sc2) (
K (.tuple ⟨[]⟩))))))

def tape_Writer_Raw.u : WP := fun args K => match args with | [.pointer p1, .string s1] => tape_Writer_Raw p1 s1 K | _ => no

def castag_Bytes (n1 : Int) (K : VK) : WK :=
chk ((0 : Int) ≤ 8) (
chk ((0 : Int) ≤ 16) (
chk ((0 : Int) ≤ 24) (
chk (1 = 1 ∧ (1 = 1 ∧ (1 = 1 ∧ (1 = 1 ∧ True)))) (mk [.int .u8 (IntKind.u8.wrap n1), .int .u8 (IntKind.u8.wrap (shr .u32 n1 8)), .int .u8 (IntKind.u8.wrap (shr .u32 n1 16)), .int .u8 (IntKind.u8.wrap (shr .u32 n1 24))] (fun r1 =>
b2s (some ⟨r1, 0, none⟩) 4 (fun s1 =>
K (.string s1)))))))

def castag_Bytes.u : WP := fun args K => match args with | [.int .u32 n1] => castag_Bytes n1 K | _ => no

def castag_Sum (n1 : Int) (s1 : ByteArray) (K : VK) : WK :=
(fun w1 => ∃ (I1 : List Value → World → Prop) (μ1 : List Value → World → Nat), I1 [.int .u32 0, .int .u32 (isum .u32 .xor 4294967295 n1), .int .i64 (s1.size : Int), .int .i64 0] w1 ∧
∀ (n2 : Int) (n3 : Int) (n4 : Int) (n5 : Int) (w2 : World), I1 [.int .u32 n2, .int .u32 n3, .int .i64 n4, .int .i64 n5] w2 → (
br (decide (n5 < n4)) (
ixStr s1 n5 (fun c1 =>
(fun w3 => ∃ (I2 : List Value → World → Prop) (μ2 : List Value → World → Nat), I2 [.int .u32 n2, .int .u32 (isum .u32 .xor n3 (IntKind.u32.wrap (c1.toNat : Int))), .int .i64 n5, .int .i64 n4, .int .i64 n5, .bool (decide (n5 < n4)), .int .i64 n5, .int .u32 n3, .string s1, .int .i64 n5, .int .u8 (c1.toNat : Int), .int .u32 (IntKind.u32.wrap (c1.toNat : Int)), .int .u32 (isum .u32 .xor n3 (IntKind.u32.wrap (c1.toNat : Int))), .int .i64 0] w3 ∧
∀ (n6 : Int) (n7 : Int) (n8 : Int) (n9 : Int) (n10 : Int) (b1 : Bool) (n11 : Int) (n12 : Int) (s2 : ByteArray) (n13 : Int) (n14 : Int) (n15 : Int) (n16 : Int) (n17 : Int) (w4 : World), I2 [.int .u32 n6, .int .u32 n7, .int .i64 n8, .int .i64 n9, .int .i64 n10, .bool b1, .int .i64 n11, .int .u32 n12, .string s2, .int .i64 n13, .int .u8 n14, .int .u32 n15, .int .u32 n16, .int .i64 n17] w4 → (
br (decide (n17 < 8)) (
chk ((0 : Int) ≤ 1) (
(fun w5 => I2 [.int .u32 n6, .int .u32 (isum .u32 .xor (shr .u32 n7 1) (isum .u32 .and 2197175160 (IntKind.u32.wrap (0 - (isum .u32 .and n7 1))))), .int .i64 n8, .int .i64 n9, .int .i64 n10, .bool b1, .int .i64 n11, .int .u32 n12, .string s2, .int .i64 n13, .int .u8 n14, .int .u32 n15, .int .u32 n16, .int .i64 (IntKind.i64.wrap (n17 + 1))] w5 ∧ μ2 [.int .u32 n6, .int .u32 (isum .u32 .xor (shr .u32 n7 1) (isum .u32 .and 2197175160 (IntKind.u32.wrap (0 - (isum .u32 .and n7 1))))), .int .i64 n8, .int .i64 n9, .int .i64 n10, .bool b1, .int .i64 n11, .int .u32 n12, .string s2, .int .i64 n13, .int .u8 n14, .int .u32 n15, .int .u32 n16, .int .i64 (IntKind.i64.wrap (n17 + 1))] w5 < μ2 [.int .u32 n6, .int .u32 n7, .int .i64 n8, .int .i64 n9, .int .i64 n10, .bool b1, .int .i64 n11, .int .u32 n12, .string s2, .int .i64 n13, .int .u8 n14, .int .u32 n15, .int .u32 n16, .int .i64 n17] w4))) (
(fun w6 => I1 [.int .u32 n6, .int .u32 n7, .int .i64 n9, .int .i64 (IntKind.i64.wrap (n10 + 1))] w6 ∧ μ1 [.int .u32 n6, .int .u32 n7, .int .i64 n9, .int .i64 (IntKind.i64.wrap (n10 + 1))] w6 < μ1 [.int .u32 n2, .int .u32 n3, .int .i64 n4, .int .i64 n5] w2))) w4))) (
K (.int .u32 (isum .u32 .xor 4294967295 n3)))) w2)

def castag_Sum.u : WP := fun args K => match args with | [.int .u32 n1, .string s1] => castag_Sum n1 s1 K | _ => no

def tape_Writer_String (p1 : Option Addr) (K : VK) : WK :=
nn p1 (fun a1 =>
ld (a1.add 0) (xL fun sb1 sn1 sc1 =>
b2s sb1 sn1 (fun s1 =>
K (.string s1))))

def tape_Writer_String.u : WP := fun args K => match args with | [.pointer p1] => tape_Writer_String p1 K | _ => no

def stamp_Bytes (cs1 : List Value) (K : VK) : WK :=
mk cs1 (fun r1 =>
ldN (⟨r1, 0, none⟩ : Addr) 3 (fun cs2 =>
stamp_good cs2 (xB fun b1 =>
br (!b1) (
K (.tuple ⟨[.string .empty, .int .i64 1]⟩)) (
chk True (
mk [.slice none 0 0] (fun r2 =>
ld ((⟨r1, 0, none⟩ : Addr).add 0) (xI .i64 fun n1 =>
tape_Writer_Int (some (⟨r2, 0, none⟩ : Addr)) 8 n1 (x0
(ld ((⟨r1, 0, none⟩ : Addr).add 1) (xI .i64 fun n2 =>
tape_Writer_Int (some (⟨r2, 0, none⟩ : Addr)) 2 n2 (x0
(ld ((⟨r1, 0, none⟩ : Addr).add 2) (xS fun s1 =>
tape_Writer_Int (some (⟨r2, 0, none⟩ : Addr)) 2 (s1.size : Int) (x0
(ld ((⟨r1, 0, none⟩ : Addr).add 2) (xS fun s2 =>
tape_Writer_Raw (some (⟨r2, 0, none⟩ : Addr)) s2 (x0
(ld ((⟨r1, 0, none⟩ : Addr).add 2) (xS fun s3 =>
strings_Repeat (⟨#[0]⟩ : ByteArray) (IntKind.i64.wrap (104 - (s3.size : Int))) (xS fun s4 =>
tape_Writer_Raw (some (⟨r2, 0, none⟩ : Addr)) s4 (x0
(tape_Writer_String (some (⟨r2, 0, none⟩ : Addr)) (xS fun s5 =>
castag_Sum 0 s5 (xI .u32 fun n3 =>
castag_Bytes n3 (xS fun s6 =>
tape_Writer_Raw (some (⟨r2, 0, none⟩ : Addr)) s6 (x0
(ld ((⟨r1, 0, none⟩ : Addr).add 0) (xI .i64 fun n4 =>
tape_Writer_Int (some (⟨r2, 0, none⟩ : Addr)) 8 n4 (x0
(tape_Writer_String (some (⟨r2, 0, none⟩ : Addr)) (xS fun s7 =>
K (.tuple ⟨[.string s7, .int .i64 0]⟩))))))))))))))))))))))))))))))))

def stamp_Bytes.u : WP := fun args K => match args with | [.agg ⟨cs1⟩] => stamp_Bytes cs1 K | _ => no

def bondstorelaw05_alive  (K : VK) : WK :=
chk (1 = 1 ∧ (1 = 1 ∧ True)) (
stamp_Bytes [.int .i64 1, .int .i64 0, .string ⟨#[104, 105]⟩] (x2 fun v1 v2 => (xS fun s1 =>
(xI .i64 fun n1 =>
br (n1 == 0) (
br ((s1.size : Int) == 128) (
ixStr s1 0 (fun c1 =>
br ((c1.toNat : Int) == 1) (
ixStr s1 120 (fun c2 =>
br ((c2.toNat : Int) == 1) (
stamp_Count 105 (xI .i64 fun n2 =>
K (.bool (n2 == 2)))) (
K (.bool false)))) (
K (.bool false)))) (
K (.bool false))) (
K (.bool false))) v2) v1))

def bondstorelaw05_alive.u : WP := fun args K => match args with | [] => bondstorelaw05_alive  K | _ => no

def bondstorelaw05_disk (sb1 : Option Addr) (sn1 : Nat) (sc1 : Nat) (K : VK) : WK :=
platter_New 12 (xP fun p1 =>
(fun w1 => ∃ (I1 : List Value → World → Prop) (μ1 : List Value → World → Nat), I1 [.pointer none, .pointer p1, .slice sb1 sn1 sc1, .int .i64 (sn1 : Int), .int .i64 0] w1 ∧
∀ (p2 : Option Addr) (p3 : Option Addr) (sb2 : Option Addr) (sn2 : Nat) (sc2 : Nat) (n1 : Int) (n2 : Int) (w2 : World), I1 [.pointer p2, .pointer p3, .slice sb2 sn2 sc2, .int .i64 n1, .int .i64 n2] w2 → (
br (decide (n2 < n1)) (
ixs sb2 sn2 n2 1 (fun a1 =>
ld a1 (xS fun s1 =>
br (decide (n2 < 12)) (
br (decide ((s1.size : Int) ≤ 128)) (
platter_Disk_Write p3 n2 s1 (xI .i64 fun n3 =>
(fun w3 => I1 [.pointer p2, .pointer p3, .slice sb2 sn2 sc2, .int .i64 n1, .int .i64 (IntKind.i64.wrap (n2 + 1))] w3 ∧ μ1 [.pointer p2, .pointer p3, .slice sb2 sn2 sc2, .int .i64 n1, .int .i64 (IntKind.i64.wrap (n2 + 1))] w3 < μ1 [.pointer p2, .pointer p3, .slice sb2 sn2 sc2, .int .i64 n1, .int .i64 n2] w2))) (
(fun w4 => I1 [.pointer p2, .pointer p3, .slice sb2 sn2 sc2, .int .i64 n1, .int .i64 (IntKind.i64.wrap (n2 + 1))] w4 ∧ μ1 [.pointer p2, .pointer p3, .slice sb2 sn2 sc2, .int .i64 n1, .int .i64 (IntKind.i64.wrap (n2 + 1))] w4 < μ1 [.pointer p2, .pointer p3, .slice sb2 sn2 sc2, .int .i64 n1, .int .i64 n2] w2))) (
(fun w5 => I1 [.pointer p2, .pointer p3, .slice sb2 sn2 sc2, .int .i64 n1, .int .i64 (IntKind.i64.wrap (n2 + 1))] w5 ∧ μ1 [.pointer p2, .pointer p3, .slice sb2 sn2 sc2, .int .i64 n1, .int .i64 (IntKind.i64.wrap (n2 + 1))] w5 < μ1 [.pointer p2, .pointer p3, .slice sb2 sn2 sc2, .int .i64 n1, .int .i64 n2] w2))))) (
platter_Disk_Sync p3 (xI .i64 fun n4 =>
K (.pointer p3)))) w2))

def bondstorelaw05_disk.u : WP := fun args K => match args with | [.slice sb1 sn1 sc1] => bondstorelaw05_disk sb1 sn1 sc1 K | _ => no

def stamp_Lay.j1 (K : VK) (s1 : ByteArray) (n2 : Int) (n1 : Int) (n3 : Int) (p1 : Option Addr) (b1 : Bool) : WK :=
br b1 (
K (.int .i64 1)) (
stamp_Count (s1.size : Int) (xI .i64 fun n4 =>
br (decide (n4 > (IntKind.i64.wrap (n2 - n1)))) (
K (.int .i64 3)) (
(fun w1 => ∃ (I1 : List Value → World → Prop) (μ1 : List Value → World → Nat), I1 [.string s1, .int .i64 0, .int .i64 0] w1 ∧
∀ (s2 : ByteArray) (n5 : Int) (n6 : Int) (w2 : World), I1 [.string s2, .int .i64 n5, .int .i64 n6] w2 → (
br (n6 == 0) (
slStr s2 none (some (min2 (s2.size : Int) 104)) (fun s3 =>
chk (1 = 1 ∧ (1 = 1 ∧ (1 = 1 ∧ True))) (
stamp_Bytes [.int .i64 n3, .int .i64 n6, .string s3] (x2 fun v1 v2 => (xS fun s4 =>
(xI .i64 fun n7 =>
platter_Disk_Write p1 (IntKind.i64.wrap (n1 + n6)) s4 (xI .i64 fun n8 =>
br (n8 != 0) (
K (.int .i64 n8)) (
slStr s2 (some (min2 (s2.size : Int) 104)) none (fun s5 =>
(fun w3 => I1 [.string s5, .int .i64 n5, .int .i64 (IntKind.i64.wrap (n6 + 1))] w3 ∧ μ1 [.string s5, .int .i64 n5, .int .i64 (IntKind.i64.wrap (n6 + 1))] w3 < μ1 [.string s2, .int .i64 n5, .int .i64 n6] w2))))) v2) v1)))) (
br (decide ((s2.size : Int) > 0)) (
slStr s2 none (some (min2 (s2.size : Int) 104)) (fun s6 =>
chk (1 = 1 ∧ (1 = 1 ∧ (1 = 1 ∧ True))) (
stamp_Bytes [.int .i64 n3, .int .i64 n6, .string s6] (x2 fun v3 v4 => (xS fun s7 =>
(xI .i64 fun n9 =>
platter_Disk_Write p1 (IntKind.i64.wrap (n1 + n6)) s7 (xI .i64 fun n10 =>
br (n10 != 0) (
K (.int .i64 n10)) (
slStr s2 (some (min2 (s2.size : Int) 104)) none (fun s8 =>
(fun w4 => I1 [.string s8, .int .i64 n5, .int .i64 (IntKind.i64.wrap (n6 + 1))] w4 ∧ μ1 [.string s8, .int .i64 n5, .int .i64 (IntKind.i64.wrap (n6 + 1))] w4 < μ1 [.string s2, .int .i64 n5, .int .i64 n6] w2))))) v4) v3)))) (
K (.int .i64 0)))) w2))))

def stamp_Lay (p1 : Option Addr) (n1 : Int) (n2 : Int) (n3 : Int) (s1 : ByteArray) (K : VK) : WK :=
br (decide (n3 < 1)) (
stamp_Lay.j1 K s1 n2 n1 n3 p1 true) (
br (decide (n3 > 1152921504606846976)) (
stamp_Lay.j1 K s1 n2 n1 n3 p1 true) (
br (decide (n1 < 0)) (
stamp_Lay.j1 K s1 n2 n1 n3 p1 true) (
platter_Disk_Sectors p1 (xI .i64 fun n11 =>
br (decide (n2 > n11)) (
stamp_Lay.j1 K s1 n2 n1 n3 p1 true) (
stamp_Lay.j1 K s1 n2 n1 n3 p1 (decide (n1 > n2)))))))

def stamp_Lay.u : WP := fun args K => match args with | [.pointer p1, .int .i64 n1, .int .i64 n2, .int .i64 n3, .string s1] => stamp_Lay p1 n1 n2 n3 s1 K | _ => no

def bondstoreref05_Count (n1 : Int) (K : VK) : WK :=
(fun w1 => ∃ (I1 : List Value → World → Prop) (μ1 : List Value → World → Nat), I1 [.int .i64 0, .int .i64 1] w1 ∧
∀ (n2 : Int) (n3 : Int) (w2 : World), I1 [.int .i64 n2, .int .i64 n3] w2 → (
br (decide ((IntKind.i64.wrap (n3 * 104)) < n1)) (
(fun w3 => I1 [.int .i64 n2, .int .i64 (IntKind.i64.wrap (n3 + 1))] w3 ∧ μ1 [.int .i64 n2, .int .i64 (IntKind.i64.wrap (n3 + 1))] w3 < μ1 [.int .i64 n2, .int .i64 n3] w2)) (
K (.int .i64 n3))) w2)

def bondstoreref05_Count.u : WP := fun args K => match args with | [.int .i64 n1] => bondstoreref05_Count n1 K | _ => no

def bondstorelaw05_StampRoom.j1 (K : VK) (sb1 : Option Addr) (sn1 : Nat) (sc1 : Nat) (n1 : Int) (s1 : ByteArray) (b2 : Bool) : WK :=
br b2 (
K (.bool true)) (
bondstorelaw05_disk sb1 sn1 sc1 (xP fun p1 =>
(fun w1 => ∃ (I1 : List Value → World → Prop) (μ1 : List Value → World → Nat), I1 [.bool false, .pointer p1, .slice none 0 0, .int .i64 0] w1 ∧
∀ (b3 : Bool) (p2 : Option Addr) (sb2 : Option Addr) (sn2 : Nat) (sc2 : Nat) (n2 : Int) (w2 : World), I1 [.bool b3, .pointer p2, .slice sb2 sn2 sc2, .int .i64 n2] w2 → (
br (decide (n2 < 12)) (
platter_Disk_Read p2 n2 (x2 fun v1 v2 => (xS fun s2 =>
(xI .i64 fun n3 =>
chk (1 = 1 ∧ True) (mk [.string s2] (fun r1 =>
appSl 1 16 [.string .empty] sb2 sn2 sc2 (some ⟨r1, 0, none⟩) 1 (fun sb3 sn3 sc3 =>
(fun w3 => I1 [.bool b3, .pointer p2, .slice sb3 sn3 sc3, .int .i64 (IntKind.i64.wrap (n2 + 1))] w3 ∧ μ1 [.bool b3, .pointer p2, .slice sb3 sn3 sc3, .int .i64 (IntKind.i64.wrap (n2 + 1))] w3 < μ1 [.bool b3, .pointer p2, .slice sb2 sn2 sc2, .int .i64 n2] w2))))) v2) v1)) (
stamp_Lay p2 n1 12 1125899906842624 s1 (xI .i64 fun n4 =>
br (n4 != 0) (
platter_Disk_Later p2 (xI .i64 fun n5 =>
K (.bool (n5 == 0)))) (
stamp_Count (s1.size : Int) (xI .i64 fun n6 =>
(fun w4 => ∃ (I2 : List Value → World → Prop) (μ2 : List Value → World → Nat), I2 [.bool b3, .pointer p2, .slice sb2 sn2 sc2, .int .i64 n6, .int .i64 (sn2 : Int), .int .i64 0] w4 ∧
∀ (b4 : Bool) (p3 : Option Addr) (sb4 : Option Addr) (sn4 : Nat) (sc4 : Nat) (n7 : Int) (n8 : Int) (n9 : Int) (w5 : World), I2 [.bool b4, .pointer p3, .slice sb4 sn4 sc4, .int .i64 n7, .int .i64 n8, .int .i64 n9] w5 → (
br (decide (n9 < n8)) (
platter_Disk_Read p3 n9 (x2 fun v3 v4 => (xS fun s3 =>
(xI .i64 fun n10 =>
br (decide (n9 < n1)) (
ixs sb4 sn4 n9 1 (fun a1 =>
ld a1 (xS fun s4 =>
br (!(strEq s3 s4)) (
K (.bool false)) (
(fun w6 => I2 [.bool b4, .pointer p3, .slice sb4 sn4 sc4, .int .i64 n7, .int .i64 n8, .int .i64 (IntKind.i64.wrap (n9 + 1))] w6 ∧ μ2 [.bool b4, .pointer p3, .slice sb4 sn4 sc4, .int .i64 n7, .int .i64 n8, .int .i64 (IntKind.i64.wrap (n9 + 1))] w6 < μ2 [.bool b4, .pointer p3, .slice sb4 sn4 sc4, .int .i64 n7, .int .i64 n8, .int .i64 n9] w5))))) (
br (decide (n9 ≥ (IntKind.i64.wrap (n1 + n7)))) (
ixs sb4 sn4 n9 1 (fun a2 =>
ld a2 (xS fun s5 =>
br (!(strEq s3 s5)) (
K (.bool false)) (
(fun w7 => I2 [.bool b4, .pointer p3, .slice sb4 sn4 sc4, .int .i64 n7, .int .i64 n8, .int .i64 (IntKind.i64.wrap (n9 + 1))] w7 ∧ μ2 [.bool b4, .pointer p3, .slice sb4 sn4 sc4, .int .i64 n7, .int .i64 n8, .int .i64 (IntKind.i64.wrap (n9 + 1))] w7 < μ2 [.bool b4, .pointer p3, .slice sb4 sn4 sc4, .int .i64 n7, .int .i64 n8, .int .i64 n9] w5))))) (
(fun w8 => I2 [.bool b4, .pointer p3, .slice sb4 sn4 sc4, .int .i64 n7, .int .i64 n8, .int .i64 (IntKind.i64.wrap (n9 + 1))] w8 ∧ μ2 [.bool b4, .pointer p3, .slice sb4 sn4 sc4, .int .i64 n7, .int .i64 n8, .int .i64 (IntKind.i64.wrap (n9 + 1))] w8 < μ2 [.bool b4, .pointer p3, .slice sb4 sn4 sc4, .int .i64 n7, .int .i64 n8, .int .i64 n9] w5)))) v4) v3)) (
platter_Disk_Later p3 (xI .i64 fun n11 =>
br (n11 == n7) (
bondstoreref05_Count (s1.size : Int) (xI .i64 fun n12 =>
K (.bool (n7 == n12)))) (
K (.bool false))))) w5)))))) w2)))

def bondstorelaw05_StampRoom (sb1 : Option Addr) (sn1 : Nat) (sc1 : Nat) (n1 : Int) (s1 : ByteArray) (K : VK) : WK :=
bondstorelaw05_alive (xB fun b1 =>
br (!b1) (
K (.bool false)) (
br (decide ((s1.size : Int) > 2000)) (
bondstorelaw05_StampRoom.j1 K sb1 sn1 sc1 n1 s1 true) (
br (decide (n1 < 0)) (
bondstorelaw05_StampRoom.j1 K sb1 sn1 sc1 n1 s1 true) (
bondstorelaw05_StampRoom.j1 K sb1 sn1 sc1 n1 s1 (decide (n1 > 12))))))

def bondstorelaw05_StampRoom.u : WP := fun args K => match args with | [.slice sb1 sn1 sc1, .int .i64 n1, .string s1] => bondstorelaw05_StampRoom sb1 sn1 sc1 n1 s1 K | _ => no

def bondstoreref03_Back (s1 : ByteArray) (K : VK) : WK :=
(fun w1 => ∃ (I1 : List Value → World → Prop) (μ1 : List Value → World → Nat), I1 [.int .i64 0, .int .u64 0, .int .i64 (IntKind.i64.wrap ((s1.size : Int) - 1))] w1 ∧
∀ (n1 : Int) (n2 : Int) (n3 : Int) (w2 : World), I1 [.int .i64 n1, .int .u64 n2, .int .i64 n3] w2 → (
br (decide (n3 ≥ 0)) (
ixStr s1 n3 (fun c1 =>
(fun w3 => I1 [.int .i64 n1, .int .u64 (IntKind.u64.wrap ((IntKind.u64.wrap (n2 * 256)) + (IntKind.u64.wrap (c1.toNat : Int)))), .int .i64 (IntKind.i64.wrap (n3 - 1))] w3 ∧ μ1 [.int .i64 n1, .int .u64 (IntKind.u64.wrap ((IntKind.u64.wrap (n2 * 256)) + (IntKind.u64.wrap (c1.toNat : Int)))), .int .i64 (IntKind.i64.wrap (n3 - 1))] w3 < μ1 [.int .i64 n1, .int .u64 n2, .int .i64 n3] w2))) (
K (.int .i64 (IntKind.i64.wrap n2)))) w2)

def bondstoreref03_Back.u : WP := fun args K => match args with | [.string s1] => bondstoreref03_Back s1 K | _ => no

def bondstoreref05_Number (s1 : ByteArray) (K : VK) : WK :=
bondstoreref03_Back s1 (xI .i64 fun n1 =>
br (decide (n1 < 1)) (
K (.int .i64 0)) (
br (decide (n1 > 1152921504606846976)) (
K (.int .i64 0)) (
K (.int .i64 n1))))

def bondstoreref05_Number.u : WP := fun args K => match args with | [.string s1] => bondstoreref05_Number s1 K | _ => no

def tape_Read (s1 : ByteArray) (K : VK) : WK :=
chk (1 = 1 ∧ True) (
mk [.string s1, .bool false] (fun r1 =>
K (.pointer (some (⟨r1, 0, none⟩ : Addr)))))

def tape_Read.u : WP := fun args K => match args with | [.string s1] => tape_Read s1 K | _ => no

def tape_Reader_Raw.j1 (K : VK) (p1 : Option Addr) (n1 : Int) : WK :=
nn p1 (fun a1 =>
ld (a1.add 0) (xS fun s1 =>
slStr s1 none (some n1) (fun s2 =>
nn p1 (fun a2 =>
ld (a2.add 0) (xS fun s3 =>
slStr s3 (some n1) none (fun s4 =>
nn p1 (fun a3 =>
st (a3.add 0) (.string s4) (
K (.string s2)))))))))

def tape_Reader_Raw (p1 : Option Addr) (n1 : Int) (K : VK) : WK :=
br (p1.isNone) (
K (.string .empty)) (
nn p1 (fun a4 =>
ld (a4.add 1) (xB fun b1 =>
br b1 (
nn p1 (fun a5 =>
st (a5.add 1) (.bool true) (
nn p1 (fun a6 =>
ld (a6.add 1) (xB fun b2 =>
br b2 (
K (.string .empty)) (
tape_Reader_Raw.j1 K p1 n1)))))) (
br (decide (n1 < 0)) (
nn p1 (fun a7 =>
st (a7.add 1) (.bool true) (
nn p1 (fun a8 =>
ld (a8.add 1) (xB fun b3 =>
br b3 (
K (.string .empty)) (
tape_Reader_Raw.j1 K p1 n1)))))) (
nn p1 (fun a9 =>
ld (a9.add 0) (xS fun s5 =>
nn p1 (fun a10 =>
st (a10.add 1) (.bool (decide (n1 > (s5.size : Int)))) (
nn p1 (fun a11 =>
ld (a11.add 1) (xB fun b4 =>
br b4 (
K (.string .empty)) (
tape_Reader_Raw.j1 K p1 n1))))))))))))

def tape_Reader_Raw.u : WP := fun args K => match args with | [.pointer p1, .int .i64 n1] => tape_Reader_Raw p1 n1 K | _ => no

def tape_Reader_Int (p1 : Option Addr) (n1 : Int) (K : VK) : WK :=
tape_Reader_Raw p1 (min2 (max2 n1 1) 8) (xS fun s1 =>
s2b s1 (fun r1 c1 =>
(fun w1 => ∃ (I1 : List Value → World → Prop) (μ1 : List Value → World → Nat), I1 [.int .i64 0, .int .i64 0, .slice (some ⟨r1, 0, none⟩) s1.size c1, .int .i64 (s1.size : Int), .int .i64 0] w1 ∧
∀ (n2 : Int) (n3 : Int) (sb1 : Option Addr) (sn1 : Nat) (sc1 : Nat) (n4 : Int) (n5 : Int) (w2 : World), I1 [.int .i64 n2, .int .i64 n3, .slice sb1 sn1 sc1, .int .i64 n4, .int .i64 n5] w2 → (
br (decide (n5 < n4)) (
ixs sb1 sn1 n5 1 (fun a1 =>
ld a1 (xI .u8 fun n6 =>
chk ((0 : Int) ≤ (IntKind.i64.wrap (8 * n5))) (
(fun w3 => I1 [.int .i64 n2, .int .i64 (isum .i64 .or n3 (shl .i64 (IntKind.i64.wrap n6) (IntKind.i64.wrap (8 * n5)))), .slice sb1 sn1 sc1, .int .i64 n4, .int .i64 (IntKind.i64.wrap (n5 + 1))] w3 ∧ μ1 [.int .i64 n2, .int .i64 (isum .i64 .or n3 (shl .i64 (IntKind.i64.wrap n6) (IntKind.i64.wrap (8 * n5)))), .slice sb1 sn1 sc1, .int .i64 n4, .int .i64 (IntKind.i64.wrap (n5 + 1))] w3 < μ1 [.int .i64 n2, .int .i64 n3, .slice sb1 sn1 sc1, .int .i64 n4, .int .i64 n5] w2))))) (
K (.int .i64 n3))) w2)))

def tape_Reader_Int.u : WP := fun args K => match args with | [.pointer p1, .int .i64 n1] => tape_Reader_Int p1 n1 K | _ => no

def stamp_ends (s1 : ByteArray) (K : VK) : WK :=
mk [.int .i64 0, .int .i64 0] (fun r1 =>
mk [.int .i64 0, .int .i64 0] (fun r2 =>
tick (
slStr s1 none (some 8) (fun s2 =>
slStr s1 (some (IntKind.i64.wrap ((s1.size : Int) - 8))) none (fun s3 =>
chk (1 = 1 ∧ (1 = 1 ∧ True)) (
(fun w1 => ∃ (I1 : List Value → World → Prop) (μ1 : List Value → World → Nat), I1 [.pointer (some (⟨r1, 0, none⟩ : Addr)), .pointer (some (⟨r2, 0, none⟩ : Addr)), .agg ⟨[.string s2, .string s3]⟩, .int .i64 0] w1 ∧
∀ (a1 : Addr) (a2 : Addr) (cs1 : List Value) (n1 : Int) (w2 : World), I1 [.pointer (some a1), .pointer (some a2), .agg ⟨cs1⟩, .int .i64 n1] w2 → (
br (decide (n1 < 2)) (
ixArr cs1 2 n1 (xS fun s4 =>
tape_Read s4 (xP fun p1 =>
tape_Reader_Int p1 8 (xI .i64 fun n2 =>
br (decide (n2 ≥ 1)) (
br (decide (n2 ≤ 1152921504606846976)) (
chk ((0 : Int) ≤ n1 ∧ n1 < 2) (
st (a2.add (n1.toNat * 1)) (.int .i64 n2) (
(fun w3 => I1 [.pointer (some a1), .pointer (some a2), .agg ⟨cs1⟩, .int .i64 (IntKind.i64.wrap (n1 + 1))] w3 ∧ μ1 [.pointer (some a1), .pointer (some a2), .agg ⟨cs1⟩, .int .i64 (IntKind.i64.wrap (n1 + 1))] w3 < μ1 [.pointer (some a1), .pointer (some a2), .agg ⟨cs1⟩, .int .i64 n1] w2)))) (
(fun w4 => I1 [.pointer (some a1), .pointer (some a2), .agg ⟨cs1⟩, .int .i64 (IntKind.i64.wrap (n1 + 1))] w4 ∧ μ1 [.pointer (some a1), .pointer (some a2), .agg ⟨cs1⟩, .int .i64 (IntKind.i64.wrap (n1 + 1))] w4 < μ1 [.pointer (some a1), .pointer (some a2), .agg ⟨cs1⟩, .int .i64 n1] w2))) (
(fun w5 => I1 [.pointer (some a1), .pointer (some a2), .agg ⟨cs1⟩, .int .i64 (IntKind.i64.wrap (n1 + 1))] w5 ∧ μ1 [.pointer (some a1), .pointer (some a2), .agg ⟨cs1⟩, .int .i64 (IntKind.i64.wrap (n1 + 1))] w5 < μ1 [.pointer (some a1), .pointer (some a2), .agg ⟨cs1⟩, .int .i64 n1] w2)))))) (
ldN a2 2 (fun cs2 =>
chk (cs2.length = 2) (stN a1 cs2 (
ldN a1 2 (fun cs3 =>
K (.agg ⟨cs3⟩))))))) w2)))))))

def stamp_ends.u : WP := fun args K => match args with | [.string s1] => stamp_ends s1 K | _ => no

def stamp_Greatest (p1 : Option Addr) (K : VK) : WK :=
platter_Disk_Sectors p1 (xI .i64 fun n1 =>
(fun w1 => ∃ (I1 : List Value → World → Prop) (μ1 : List Value → World → Nat), I1 [.int .i64 0, .int .i64 0, .int .i64 n1, .int .i64 0] w1 ∧
∀ (n2 : Int) (n3 : Int) (n4 : Int) (n5 : Int) (w2 : World), I1 [.int .i64 n2, .int .i64 n3, .int .i64 n4, .int .i64 n5] w2 → (
br (decide (n5 < n4)) (
platter_Disk_Read p1 n5 (x2 fun v1 v2 => (xS fun s1 =>
(xI .i64 fun n6 =>
stamp_ends s1 (xA 2 fun cs1 =>
mk [.int .i64 0, .int .i64 0] (fun r1 =>
chk (cs1.length = 2) (stN (⟨r1, 0, none⟩ : Addr) cs1 (
chk ((0 : Int) ≤ 0 ∧ (0 : Int) < 2) (
ld ((⟨r1, 0, none⟩ : Addr).add ((0 : Int).toNat * 1)) (xI .i64 fun n7 =>
chk ((0 : Int) ≤ 1 ∧ (1 : Int) < 2) (
ld ((⟨r1, 0, none⟩ : Addr).add ((1 : Int).toNat * 1)) (xI .i64 fun n8 =>
(fun w3 => I1 [.int .i64 n2, .int .i64 (max2 (max2 n3 n7) n8), .int .i64 n4, .int .i64 (IntKind.i64.wrap (n5 + 1))] w3 ∧ μ1 [.int .i64 n2, .int .i64 (max2 (max2 n3 n7) n8), .int .i64 n4, .int .i64 (IntKind.i64.wrap (n5 + 1))] w3 < μ1 [.int .i64 n2, .int .i64 n3, .int .i64 n4, .int .i64 n5] w2)))))))))) v2) v1)) (
K (.int .i64 n3))) w2))

def stamp_Greatest.u : WP := fun args K => match args with | [.pointer p1] => stamp_Greatest p1 K | _ => no

def bondstorelaw05_StampGreatest (sb1 : Option Addr) (sn1 : Nat) (sc1 : Nat) (K : VK) : WK :=
bondstorelaw05_alive (xB fun b1 =>
br (!b1) (
K (.bool false)) (
bondstorelaw05_disk sb1 sn1 sc1 (xP fun p1 =>
(fun w1 => ∃ (I1 : List Value → World → Prop) (μ1 : List Value → World → Nat), I1 [.bool false, .pointer p1, .int .i64 0, .int .i64 0] w1 ∧
∀ (b2 : Bool) (p2 : Option Addr) (n1 : Int) (n2 : Int) (w2 : World), I1 [.bool b2, .pointer p2, .int .i64 n1, .int .i64 n2] w2 → (
br (decide (n2 < 12)) (
platter_Disk_Read p2 n2 (x2 fun v1 v2 => (xS fun s1 =>
(xI .i64 fun n3 =>
tick (
slStr s1 none (some 8) (fun s2 =>
slStr s1 (some 120) none (fun s3 =>
bondstoreref05_Number s2 (xI .i64 fun n4 =>
bondstoreref05_Number s3 (xI .i64 fun n5 =>
(fun w3 => I1 [.bool b2, .pointer p2, .int .i64 (max2 (max2 n1 n4) n5), .int .i64 (IntKind.i64.wrap (n2 + 1))] w3 ∧ μ1 [.bool b2, .pointer p2, .int .i64 (max2 (max2 n1 n4) n5), .int .i64 (IntKind.i64.wrap (n2 + 1))] w3 < μ1 [.bool b2, .pointer p2, .int .i64 n1, .int .i64 n2] w2))))))) v2) v1)) (
stamp_Greatest p2 (xI .i64 fun n6 =>
br (n6 == n1) (
platter_New 0 (xP fun p3 =>
stamp_Greatest p3 (xI .i64 fun n7 =>
K (.bool (n7 == 0))))) (
K (.bool false))))) w2))))

def bondstorelaw05_StampGreatest.u : WP := fun args K => match args with | [.slice sb1 sn1 sc1] => bondstorelaw05_StampGreatest sb1 sn1 sc1 K | _ => no

end Go.Prog
