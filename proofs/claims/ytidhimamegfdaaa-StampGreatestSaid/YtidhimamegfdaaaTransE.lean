/- ProgE: part of the proof: see the last text. -/
import Derived.Test.YtidhimamegfdaaaTransM
import Derived.Test.YtidhimamegfdaaaRep
import Derived.Test.YtidhimamegfdaaaProg
namespace Go.Proofs.Ytidhimamegfdaaa
set_option linter.unusedSimpArgs false
set_option linter.unusedVariables false
open Go.Den Go.Prog
set_option maxRecDepth 100000

def eqs : Eqs := []
theorem eqsOk : EqsOk Try.prog eqs := fun t zs h => by simp [eqs, eqsOf] at h
theorem mixed : Try.prog.follows .mixedOrders = true := by kernel_rfl
theorem repL_eq (l : List UInt8) : ∀ n, repL l n = Go.Lib.repeatL l n
  | 0 => rfl
  | n + 1 => by simp [repL, Go.Lib.repeatL, repL_eq l n]
theorem e43 : Entry Try.prog 43 strings_Repeat.u := ⟨⟨_, Try.func43, rfl, rfl⟩, fun args K w h => by
  unfold strings_Repeat.u at h
  split at h
  · rename_i s n
    obtain ⟨⟨h0, h1, h2⟩, hk⟩ := h
    obtain ⟨m, rfl⟩ := Int.eq_ofNat_of_zero_le h0
    refine (Go.Proofs.Try.strings_Repeat s m w (by omega) (by simpa using h1)).mono fun e w' ⟨he, hb⟩ => ⟨_, he, ?_⟩
    rw [← repL_eq]; exact hk w' hb
  · exact h.elim⟩

noncomputable def c32 : Code := (Try.f32.body).getD .skip
theorem b32  (K : VK) : body Try.prog [(43, strings_Repeat.u)] eqs Try.f32.ntmps [] [] Try.f32.results.toList c32 [] K = platter_blank  K := by kernel_rfl
theorem e32 : Entry Try.prog 32 platter_blank.u := entry_of (T := [(43, strings_Repeat.u)]) (c := c32) [] [] ⟨e43, trivial⟩ eqsOk mixed Try.func32 rfl (by decide) (fun args K w h => by
  unfold platter_blank.u at h
  split at h
  · exact ⟨Nat.le_of_ble_eq_true rfl, by rw [b32]; exact h⟩
  · exact h.elim)

noncomputable def c11 : Code := (Try.f11.body).getD .skip
theorem b11 (n1 : Int) (K : VK) : body Try.prog [(32, platter_blank.u)] eqs Try.f11.ntmps [] [(3, [(2, .pointer none), (3, .pointer (some ⟨0, 0, none⟩)), (8, .int .i64 0), (9, .int .i64 0)])] Try.f11.results.toList c11 [.int .i64 n1] K = platter_New n1 K := by kernel_rfl
theorem e11 : Entry Try.prog 11 platter_New.u := entry_of (T := [(32, platter_blank.u)]) (c := c11) [] [(3, [(2, .pointer none), (3, .pointer (some ⟨0, 0, none⟩)), (8, .int .i64 0), (9, .int .i64 0)])] ⟨e32, trivial⟩ eqsOk mixed Try.func11 rfl (by decide) (fun args K w h => by
  unfold platter_New.u at h
  split at h
  · exact ⟨Nat.le_of_ble_eq_true rfl, by rw [b11]; exact h⟩
  · exact h.elim)

noncomputable def c33 : Code := (Try.f33.body).getD .skip
theorem b33 (p1 : Option Addr) (n1 : Int) (K : VK) : body Try.prog [] eqs Try.f33.ntmps [] [] Try.f33.results.toList c33 [.pointer p1, .int .i64 n1] K = platter_Disk_is p1 n1 K := by kernel_rfl
theorem e33 : Entry Try.prog 33 platter_Disk_is.u := entry_of (T := []) (c := c33) [] [] trivial eqsOk mixed Try.func33 rfl (by decide) (fun args K w h => by
  unfold platter_Disk_is.u at h
  split at h
  · exact ⟨Nat.le_of_ble_eq_true rfl, by rw [b33]; exact h⟩
  · exact h.elim)

noncomputable def c34 : Code := (Try.f34.body).getD .skip
theorem b34 (p1 : Option Addr) (K : VK) : body Try.prog [] eqs Try.f34.ntmps [] [] Try.f34.results.toList c34 [.pointer p1] K = platter_Disk_fails p1 K := by kernel_rfl
theorem e34 : Entry Try.prog 34 platter_Disk_fails.u := entry_of (T := []) (c := c34) [] [] trivial eqsOk mixed Try.func34 rfl (by decide) (fun args K w h => by
  unfold platter_Disk_fails.u at h
  split at h
  · exact ⟨Nat.le_of_ble_eq_true rfl, by rw [b34]; exact h⟩
  · exact h.elim)

noncomputable def c12 : Code := (Try.f12.body).getD .skip
theorem b12 (p1 : Option Addr) (n1 : Int) (s1 : ByteArray) (K : VK) : body Try.prog [(32, platter_blank.u), (33, platter_Disk_is.u), (34, platter_Disk_fails.u)] eqs Try.f12.ntmps [] [] Try.f12.results.toList c12 [.pointer p1, .int .i64 n1, .string s1] K = platter_Disk_Write p1 n1 s1 K := by kernel_rfl
theorem e12 : Entry Try.prog 12 platter_Disk_Write.u := entry_of (T := [(32, platter_blank.u), (33, platter_Disk_is.u), (34, platter_Disk_fails.u)]) (c := c12) [] [] ⟨e32, ⟨e33, ⟨e34, trivial⟩⟩⟩ eqsOk mixed Try.func12 rfl (by decide) (fun args K w h => by
  unfold platter_Disk_Write.u at h
  split at h
  · exact ⟨Nat.le_of_ble_eq_true rfl, by rw [b12]; exact h⟩
  · exact h.elim)

noncomputable def c13 : Code := (Try.f13.body).getD .skip
theorem b13 (p1 : Option Addr) (n1 : Int) (K : VK) : body Try.prog [(33, platter_Disk_is.u)] eqs Try.f13.ntmps [] [(6, [(4, .string .empty), (5, .int .i64 0), (6, .int .i64 0)])] Try.f13.results.toList c13 [.pointer p1, .int .i64 n1] K = platter_Disk_Read p1 n1 K := by kernel_rfl
theorem e13 : Entry Try.prog 13 platter_Disk_Read.u := entry_of (T := [(33, platter_Disk_is.u)]) (c := c13) [] [(6, [(4, .string .empty), (5, .int .i64 0), (6, .int .i64 0)])] ⟨e33, trivial⟩ eqsOk mixed Try.func13 rfl (by decide) (fun args K w h => by
  unfold platter_Disk_Read.u at h
  split at h
  · exact ⟨Nat.le_of_ble_eq_true rfl, by rw [b13]; exact h⟩
  · exact h.elim)

noncomputable def c14 : Code := (Try.f14.body).getD .skip
theorem b14 (p1 : Option Addr) (n1 : Int) (n2 : Int) (n3 : Int) (K : VK) : body Try.prog [] eqs Try.f14.ntmps [3] [(3, [(3, .int .i64 0), (18, .slice none 0 0), (19, .int .i64 0), (20, .int .i64 0)])] Try.f14.results.toList c14 [.pointer p1, .int .u64 n1, .int .i64 n2, .int .i64 n3] K = platter_Disk_Crash p1 n1 n2 n3 K := by kernel_rfl
theorem e14 : Entry Try.prog 14 platter_Disk_Crash.u := entry_of (T := []) (c := c14) [3] [(3, [(3, .int .i64 0), (18, .slice none 0 0), (19, .int .i64 0), (20, .int .i64 0)])] trivial eqsOk mixed Try.func14 rfl (by decide) (fun args K w h => by
  unfold platter_Disk_Crash.u at h
  split at h
  · exact ⟨Nat.le_of_ble_eq_true rfl, by rw [b14]; exact h⟩
  · exact h.elim)

noncomputable def c23 : Code := (Try.f23.body).getD .skip
theorem b23 (p1 : Option Addr) (K : VK) : body Try.prog [] eqs Try.f23.ntmps [] [] Try.f23.results.toList c23 [.pointer p1] K = platter_Disk_Sectors p1 K := by kernel_rfl
theorem e23 : Entry Try.prog 23 platter_Disk_Sectors.u := entry_of (T := []) (c := c23) [] [] trivial eqsOk mixed Try.func23 rfl (by decide) (fun args K w h => by
  unfold platter_Disk_Sectors.u at h
  split at h
  · exact ⟨Nat.le_of_ble_eq_true rfl, by rw [b23]; exact h⟩
  · exact h.elim)

noncomputable def c10 : Code := (Try.f10.body).getD .skip
theorem b10  (K : VK) : body Try.prog [(11, platter_New.u), (12, platter_Disk_Write.u), (13, platter_Disk_Read.u), (14, platter_Disk_Crash.u), (23, platter_Disk_Sectors.u)] eqs Try.f10.ntmps [] [] Try.f10.results.toList c10 [] K = bondstorelaw04_alive  K := by kernel_rfl
theorem e10 : Entry Try.prog 10 bondstorelaw04_alive.u := entry_of (T := [(11, platter_New.u), (12, platter_Disk_Write.u), (13, platter_Disk_Read.u), (14, platter_Disk_Crash.u), (23, platter_Disk_Sectors.u)]) (c := c10) [] [] ⟨e11, ⟨e12, ⟨e13, ⟨e14, ⟨e23, trivial⟩⟩⟩⟩⟩ eqsOk mixed Try.func10 rfl (by decide) (fun args K w h => by
  unfold bondstorelaw04_alive.u at h
  split at h
  · exact ⟨Nat.le_of_ble_eq_true rfl, by rw [b10]; exact h⟩
  · exact h.elim)

noncomputable def c35 : Code := (Try.f35.body).getD .skip
theorem b35  (K : VK) : body Try.prog [] eqs Try.f35.ntmps [] [(3, [(0, .string .empty), (1, .string .empty), (2, .int .i64 0)])] Try.f35.results.toList c35 [] K = bondstoreref04_blank  K := by kernel_rfl
theorem e35 : Entry Try.prog 35 bondstoreref04_blank.u := entry_of (T := []) (c := c35) [] [(3, [(0, .string .empty), (1, .string .empty), (2, .int .i64 0)])] trivial eqsOk mixed Try.func35 rfl (by decide) (fun args K w h => by
  unfold bondstoreref04_blank.u at h
  split at h
  · exact ⟨Nat.le_of_ble_eq_true rfl, by rw [b35]; exact h⟩
  · exact h.elim)

noncomputable def c18 : Code := (Try.f18.body).getD .skip
theorem b18 (n1 : Int) (K : VK) : body Try.prog [(35, bondstoreref04_blank.u)] eqs Try.f18.ntmps [] [(4, [(2, .pointer none), (3, .pointer (some ⟨0, 0, none⟩)), (4, .string .empty), (5, .int .i64 0)])] Try.f18.results.toList c18 [.int .i64 n1] K = bondstoreref04_New n1 K := by kernel_rfl
theorem e18 : Entry Try.prog 18 bondstoreref04_New.u := entry_of (T := [(35, bondstoreref04_blank.u)]) (c := c18) [] [(4, [(2, .pointer none), (3, .pointer (some ⟨0, 0, none⟩)), (4, .string .empty), (5, .int .i64 0)])] ⟨e35, trivial⟩ eqsOk mixed Try.func18 rfl (by decide) (fun args K w h => by
  unfold bondstoreref04_New.u at h
  split at h
  · exact ⟨Nat.le_of_ble_eq_true rfl, by rw [b18]; exact h⟩
  · exact h.elim)

noncomputable def c15 : Code := (Try.f15.body).getD .skip
theorem b15  (K : VK) : body Try.prog [(18, bondstoreref04_New.u)] eqs Try.f15.ntmps [] [] Try.f15.results.toList c15 [] K = bondstorelaw04_platterBlank  K := by kernel_rfl
theorem e15 : Entry Try.prog 15 bondstorelaw04_platterBlank.u := entry_of (T := [(18, bondstoreref04_New.u)]) (c := c15) [] [] ⟨e18, trivial⟩ eqsOk mixed Try.func15 rfl (by decide) (fun args K w h => by
  unfold bondstorelaw04_platterBlank.u at h
  split at h
  · exact ⟨Nat.le_of_ble_eq_true rfl, by rw [b15]; exact h⟩
  · exact h.elim)

noncomputable def c3 : Code := (Try.f3.body).getD .skip
theorem b3 (n1 : Int) (sb1 : Option Addr) (sn1 : Nat) (sc1 : Nat) (n2 : Int) (n3 : Int) (n4 : Int) (K : VK) : body Try.prog [(10, bondstorelaw04_alive.u), (11, platter_New.u), (12, platter_Disk_Write.u), (13, platter_Disk_Read.u), (14, platter_Disk_Crash.u), (15, bondstorelaw04_platterBlank.u)] eqs Try.f3.ntmps [] [(8, [(10, .bool false), (11, .pointer none), (12, .slice none 0 0), (40, .slice none 0 0), (41, .int .i64 0), (42, .int .i64 0)]), (19, [(10, .bool false), (11, .pointer none), (12, .slice none 0 0), (17, .int .i64 0), (74, .int .i64 0), (75, .int .i64 0)])] Try.f3.results.toList c3 [.int .i64 n1, .slice sb1 sn1 sc1, .int .u64 n2, .int .i64 n3, .int .i64 n4] K = bondstorelaw04_PlatterTorn n1 sb1 sn1 sc1 n2 n3 n4 K := by kernel_rfl
theorem e3 : Entry Try.prog 3 bondstorelaw04_PlatterTorn.u := entry_of (T := [(10, bondstorelaw04_alive.u), (11, platter_New.u), (12, platter_Disk_Write.u), (13, platter_Disk_Read.u), (14, platter_Disk_Crash.u), (15, bondstorelaw04_platterBlank.u)]) (c := c3) [] [(8, [(10, .bool false), (11, .pointer none), (12, .slice none 0 0), (40, .slice none 0 0), (41, .int .i64 0), (42, .int .i64 0)]), (19, [(10, .bool false), (11, .pointer none), (12, .slice none 0 0), (17, .int .i64 0), (74, .int .i64 0), (75, .int .i64 0)])] ⟨e10, ⟨e11, ⟨e12, ⟨e13, ⟨e14, ⟨e15, trivial⟩⟩⟩⟩⟩⟩ eqsOk mixed Try.func3 rfl (by decide) (fun args K w h => by
  unfold bondstorelaw04_PlatterTorn.u at h
  split at h
  · exact ⟨Nat.le_of_ble_eq_true rfl, by rw [b3]; exact h⟩
  · exact h.elim)

noncomputable def c16 : Code := (Try.f16.body).getD .skip
theorem b16 (sb1 : Option Addr) (sn1 : Nat) (sc1 : Nat) (K : VK) : body Try.prog [] eqs Try.f16.ntmps [] [(3, [(2, .bool false), (3, .int .i64 0), (6, .slice none 0 0), (7, .int .i64 0), (8, .int .i64 0)])] Try.f16.results.toList c16 [.slice sb1 sn1 sc1] K = bondstorelaw04_great sb1 sn1 sc1 K := by kernel_rfl
theorem e16 : Entry Try.prog 16 bondstorelaw04_great.u := entry_of (T := []) (c := c16) [] [(3, [(2, .bool false), (3, .int .i64 0), (6, .slice none 0 0), (7, .int .i64 0), (8, .int .i64 0)])] trivial eqsOk mixed Try.func16 rfl (by decide) (fun args K w h => by
  unfold bondstorelaw04_great.u at h
  split at h
  · exact ⟨Nat.le_of_ble_eq_true rfl, by rw [b16]; exact h⟩
  · exact h.elim)

noncomputable def c17 : Code := (Try.f17.body).getD .skip
theorem b17 (p1 : Option Addr) (K : VK) : body Try.prog [(34, platter_Disk_fails.u)] eqs Try.f17.ntmps [] [(6, [(2, .int .i64 0), (14, .slice none 0 0), (15, .int .i64 0), (16, .int .i64 0)])] Try.f17.results.toList c17 [.pointer p1] K = platter_Disk_Sync p1 K := by kernel_rfl
theorem e17 : Entry Try.prog 17 platter_Disk_Sync.u := entry_of (T := [(34, platter_Disk_fails.u)]) (c := c17) [] [(6, [(2, .int .i64 0), (14, .slice none 0 0), (15, .int .i64 0), (16, .int .i64 0)])] ⟨e34, trivial⟩ eqsOk mixed Try.func17 rfl (by decide) (fun args K w h => by
  unfold platter_Disk_Sync.u at h
  split at h
  · exact ⟨Nat.le_of_ble_eq_true rfl, by rw [b17]; exact h⟩
  · exact h.elim)

noncomputable def c4 : Code := (Try.f4.body).getD .skip
theorem b4 (n1 : Int) (sb1 : Option Addr) (sn1 : Nat) (sc1 : Nat) (n2 : Int) (K : VK) : body Try.prog [(10, bondstorelaw04_alive.u), (11, platter_New.u), (12, platter_Disk_Write.u), (13, platter_Disk_Read.u), (16, bondstorelaw04_great.u), (17, platter_Disk_Sync.u)] eqs Try.f4.ntmps [] [(7, [(6, .bool false), (7, .pointer none), (8, .pointer none), (36, .slice none 0 0), (37, .int .i64 0), (38, .int .i64 0)])] Try.f4.results.toList c4 [.int .i64 n1, .slice sb1 sn1 sc1, .int .i64 n2] K = bondstorelaw04_PlatterApart n1 sb1 sn1 sc1 n2 K := by kernel_rfl
theorem e4 : Entry Try.prog 4 bondstorelaw04_PlatterApart.u := entry_of (T := [(10, bondstorelaw04_alive.u), (11, platter_New.u), (12, platter_Disk_Write.u), (13, platter_Disk_Read.u), (16, bondstorelaw04_great.u), (17, platter_Disk_Sync.u)]) (c := c4) [] [(7, [(6, .bool false), (7, .pointer none), (8, .pointer none), (36, .slice none 0 0), (37, .int .i64 0), (38, .int .i64 0)])] ⟨e10, ⟨e11, ⟨e12, ⟨e13, ⟨e16, ⟨e17, trivial⟩⟩⟩⟩⟩⟩ eqsOk mixed Try.func4 rfl (by decide) (fun args K w h => by
  unfold bondstorelaw04_PlatterApart.u at h
  split at h
  · exact ⟨Nat.le_of_ble_eq_true rfl, by rw [b4]; exact h⟩
  · exact h.elim)

noncomputable def c20 : Code := (Try.f20.body).getD .skip
theorem b20 (p1 : Option Addr) (n1 : Int) (K : VK) : body Try.prog [] eqs Try.f20.ntmps [] [] Try.f20.results.toList c20 [.pointer p1, .int .i64 n1] K = platter_Disk_Arm p1 n1 K := by kernel_rfl
theorem e20 : Entry Try.prog 20 platter_Disk_Arm.u := entry_of (T := []) (c := c20) [] [] trivial eqsOk mixed Try.func20 rfl (by decide) (fun args K w h => by
  unfold platter_Disk_Arm.u at h
  split at h
  · exact ⟨Nat.le_of_ble_eq_true rfl, by rw [b20]; exact h⟩
  · exact h.elim)

noncomputable def c44 : Code := (Try.f44.body).getD .skip
theorem b44 (p1 : Option Addr) (K : VK) : body Try.prog [] eqs Try.f44.ntmps [] [] Try.f44.results.toList c44 [.pointer p1] K = bondstoreref04_Disk_fails p1 K := by kernel_rfl
theorem e44 : Entry Try.prog 44 bondstoreref04_Disk_fails.u := entry_of (T := []) (c := c44) [] [] trivial eqsOk mixed Try.func44 rfl (by decide) (fun args K w h => by
  unfold bondstoreref04_Disk_fails.u at h
  split at h
  · exact ⟨Nat.le_of_ble_eq_true rfl, by rw [b44]; exact h⟩
  · exact h.elim)

noncomputable def c36 : Code := (Try.f36.body).getD .skip
theorem b36 (p1 : Option Addr) (n1 : Int) (s1 : ByteArray) (K : VK) : body Try.prog [(35, bondstoreref04_blank.u), (44, bondstoreref04_Disk_fails.u)] eqs Try.f36.ntmps [] [] Try.f36.results.toList c36 [.pointer p1, .int .i64 n1, .string s1] K = bondstoreref04_Disk_Write p1 n1 s1 K := by kernel_rfl
theorem e36 : Entry Try.prog 36 bondstoreref04_Disk_Write.u := entry_of (T := [(35, bondstoreref04_blank.u), (44, bondstoreref04_Disk_fails.u)]) (c := c36) [] [] ⟨e35, ⟨e44, trivial⟩⟩ eqsOk mixed Try.func36 rfl (by decide) (fun args K w h => by
  unfold bondstoreref04_Disk_Write.u at h
  split at h
  · exact ⟨Nat.le_of_ble_eq_true rfl, by rw [b36]; exact h⟩
  · exact h.elim)

noncomputable def c38 : Code := (Try.f38.body).getD .skip
theorem b38 (p1 : Option Addr) (n1 : Int) (n2 : Int) (n3 : Int) (K : VK) : body Try.prog [] eqs Try.f38.ntmps [] [(2, [(8, .int .i64 0), (17, .slice none 0 0), (18, .int .i64 0), (19, .int .i64 0)])] Try.f38.results.toList c38 [.pointer p1, .int .u64 n1, .int .i64 n2, .int .i64 n3] K = bondstoreref04_Disk_Crash p1 n1 n2 n3 K := by kernel_rfl
theorem e38 : Entry Try.prog 38 bondstoreref04_Disk_Crash.u := entry_of (T := []) (c := c38) [] [(2, [(8, .int .i64 0), (17, .slice none 0 0), (18, .int .i64 0), (19, .int .i64 0)])] trivial eqsOk mixed Try.func38 rfl (by decide) (fun args K w h => by
  unfold bondstoreref04_Disk_Crash.u at h
  split at h
  · exact ⟨Nat.le_of_ble_eq_true rfl, by rw [b38]; exact h⟩
  · exact h.elim)

noncomputable def c37 : Code := (Try.f37.body).getD .skip
theorem b37 (p1 : Option Addr) (K : VK) : body Try.prog [(38, bondstoreref04_Disk_Crash.u), (44, bondstoreref04_Disk_fails.u)] eqs Try.f37.ntmps [] [] Try.f37.results.toList c37 [.pointer p1] K = bondstoreref04_Disk_Sync p1 K := by kernel_rfl
theorem e37 : Entry Try.prog 37 bondstoreref04_Disk_Sync.u := entry_of (T := [(38, bondstoreref04_Disk_Crash.u), (44, bondstoreref04_Disk_fails.u)]) (c := c37) [] [] ⟨e38, ⟨e44, trivial⟩⟩ eqsOk mixed Try.func37 rfl (by decide) (fun args K w h => by
  unfold bondstoreref04_Disk_Sync.u at h
  split at h
  · exact ⟨Nat.le_of_ble_eq_true rfl, by rw [b37]; exact h⟩
  · exact h.elim)

noncomputable def c19 : Code := (Try.f19.body).getD .skip
theorem b19 (p1 : Option Addr) (p2 : Option Addr) (cs1 : List Value) (K : VK) : body Try.prog [(12, platter_Disk_Write.u), (14, platter_Disk_Crash.u), (17, platter_Disk_Sync.u), (20, platter_Disk_Arm.u), (36, bondstoreref04_Disk_Write.u), (37, bondstoreref04_Disk_Sync.u), (38, bondstoreref04_Disk_Crash.u)] eqs Try.f19.ntmps [] [] Try.f19.results.toList c19 [.pointer p1, .pointer p2, .agg ⟨cs1⟩] K = bondstorelaw04_does p1 p2 cs1 K := by kernel_rfl
theorem e19 : Entry Try.prog 19 bondstorelaw04_does.u := entry_of (T := [(12, platter_Disk_Write.u), (14, platter_Disk_Crash.u), (17, platter_Disk_Sync.u), (20, platter_Disk_Arm.u), (36, bondstoreref04_Disk_Write.u), (37, bondstoreref04_Disk_Sync.u), (38, bondstoreref04_Disk_Crash.u)]) (c := c19) [] [] ⟨e12, ⟨e14, ⟨e17, ⟨e20, ⟨e36, ⟨e37, ⟨e38, trivial⟩⟩⟩⟩⟩⟩⟩ eqsOk mixed Try.func19 rfl (by decide) (fun args K w h => by
  unfold bondstorelaw04_does.u at h
  split at h
  · exact ⟨Nat.le_of_ble_eq_true rfl, by rw [b19]; exact h⟩
  · exact h.elim)

noncomputable def c21 : Code := (Try.f21.body).getD .skip
theorem b21 (p1 : Option Addr) (K : VK) : body Try.prog [] eqs Try.f21.ntmps [] [] Try.f21.results.toList c21 [.pointer p1] K = platter_Disk_Later p1 K := by kernel_rfl
theorem e21 : Entry Try.prog 21 platter_Disk_Later.u := entry_of (T := []) (c := c21) [] [] trivial eqsOk mixed Try.func21 rfl (by decide) (fun args K w h => by
  unfold platter_Disk_Later.u at h
  split at h
  · exact ⟨Nat.le_of_ble_eq_true rfl, by rw [b21]; exact h⟩
  · exact h.elim)

noncomputable def c5 : Code := (Try.f5.body).getD .skip
theorem b5 (n1 : Int) (sb1 : Option Addr) (sn1 : Nat) (sc1 : Nat) (sb2 : Option Addr) (sn2 : Nat) (sc2 : Nat) (n2 : Int) (n3 : Int) (n4 : Int) (K : VK) : body Try.prog [(10, bondstorelaw04_alive.u), (11, platter_New.u), (12, platter_Disk_Write.u), (13, platter_Disk_Read.u), (14, platter_Disk_Crash.u), (16, bondstorelaw04_great.u), (17, platter_Disk_Sync.u), (18, bondstoreref04_New.u), (19, bondstorelaw04_does.u), (20, platter_Disk_Arm.u), (21, platter_Disk_Later.u)] eqs Try.f5.ntmps [] [(7, [(12, .bool false), (13, .pointer none), (14, .pointer none), (45, .slice none 0 0), (46, .int .i64 0), (47, .int .i64 0)]), (16, [(12, .bool false), (13, .pointer none), (17, .slice none 0 0), (64, .int .i64 0), (65, .int .i64 0)]), (22, [(12, .bool false), (13, .pointer none), (17, .slice none 0 0), (19, .slice none 0 0), (80, .slice none 0 0), (81, .int .i64 0), (82, .int .i64 0)]), (29, [(12, .bool false), (13, .pointer none), (17, .slice none 0 0), (19, .slice none 0 0), (109, .int .i64 0), (110, .int .i64 0)])] Try.f5.results.toList c5 [.int .i64 n1, .slice sb1 sn1 sc1, .slice sb2 sn2 sc2, .int .u64 n2, .int .i64 n3, .int .i64 n4] K = bondstorelaw04_PlatterLasts n1 sb1 sn1 sc1 sb2 sn2 sc2 n2 n3 n4 K := by kernel_rfl
theorem e5 : Entry Try.prog 5 bondstorelaw04_PlatterLasts.u := entry_of (T := [(10, bondstorelaw04_alive.u), (11, platter_New.u), (12, platter_Disk_Write.u), (13, platter_Disk_Read.u), (14, platter_Disk_Crash.u), (16, bondstorelaw04_great.u), (17, platter_Disk_Sync.u), (18, bondstoreref04_New.u), (19, bondstorelaw04_does.u), (20, platter_Disk_Arm.u), (21, platter_Disk_Later.u)]) (c := c5) [] [(7, [(12, .bool false), (13, .pointer none), (14, .pointer none), (45, .slice none 0 0), (46, .int .i64 0), (47, .int .i64 0)]), (16, [(12, .bool false), (13, .pointer none), (17, .slice none 0 0), (64, .int .i64 0), (65, .int .i64 0)]), (22, [(12, .bool false), (13, .pointer none), (17, .slice none 0 0), (19, .slice none 0 0), (80, .slice none 0 0), (81, .int .i64 0), (82, .int .i64 0)]), (29, [(12, .bool false), (13, .pointer none), (17, .slice none 0 0), (19, .slice none 0 0), (109, .int .i64 0), (110, .int .i64 0)])] ⟨e10, ⟨e11, ⟨e12, ⟨e13, ⟨e14, ⟨e16, ⟨e17, ⟨e18, ⟨e19, ⟨e20, ⟨e21, trivial⟩⟩⟩⟩⟩⟩⟩⟩⟩⟩⟩ eqsOk mixed Try.func5 rfl (by decide) (fun args K w h => by
  unfold bondstorelaw04_PlatterLasts.u at h
  split at h
  · exact ⟨Nat.le_of_ble_eq_true rfl, by rw [b5]; exact h⟩
  · exact h.elim)

noncomputable def c6 : Code := (Try.f6.body).getD .skip
theorem b6 (n1 : Int) (sb1 : Option Addr) (sn1 : Nat) (sc1 : Nat) (n2 : Int) (K : VK) : body Try.prog [(10, bondstorelaw04_alive.u), (11, platter_New.u), (12, platter_Disk_Write.u), (13, platter_Disk_Read.u), (16, bondstorelaw04_great.u), (17, platter_Disk_Sync.u), (20, platter_Disk_Arm.u), (21, platter_Disk_Later.u)] eqs Try.f6.ntmps [] [(9, [(6, .bool false), (7, .pointer none), (8, .pointer none), (9, .int .i64 0), (41, .slice none 0 0), (42, .int .i64 0), (43, .int .i64 0)]), (25, [(6, .bool false), (7, .pointer none), (8, .pointer none), (13, .int .i64 0)])] Try.f6.results.toList c6 [.int .i64 n1, .slice sb1 sn1 sc1, .int .i64 n2] K = bondstorelaw04_PlatterFails n1 sb1 sn1 sc1 n2 K := by kernel_rfl
theorem e6 : Entry Try.prog 6 bondstorelaw04_PlatterFails.u := entry_of (T := [(10, bondstorelaw04_alive.u), (11, platter_New.u), (12, platter_Disk_Write.u), (13, platter_Disk_Read.u), (16, bondstorelaw04_great.u), (17, platter_Disk_Sync.u), (20, platter_Disk_Arm.u), (21, platter_Disk_Later.u)]) (c := c6) [] [(9, [(6, .bool false), (7, .pointer none), (8, .pointer none), (9, .int .i64 0), (41, .slice none 0 0), (42, .int .i64 0), (43, .int .i64 0)]), (25, [(6, .bool false), (7, .pointer none), (8, .pointer none), (13, .int .i64 0)])] ⟨e10, ⟨e11, ⟨e12, ⟨e13, ⟨e16, ⟨e17, ⟨e20, ⟨e21, trivial⟩⟩⟩⟩⟩⟩⟩⟩ eqsOk mixed Try.func6 rfl (by decide) (fun args K w h => by
  unfold bondstorelaw04_PlatterFails.u at h
  split at h
  · exact ⟨Nat.le_of_ble_eq_true rfl, by rw [b6]; exact h⟩
  · exact h.elim)

noncomputable def c24 : Code := (Try.f24.body).getD .skip
theorem b24 (p1 : Option Addr) (K : VK) : body Try.prog [] eqs Try.f24.ntmps [] [] Try.f24.results.toList c24 [.pointer p1] K = platter_Disk_Ops p1 K := by kernel_rfl
theorem e24 : Entry Try.prog 24 platter_Disk_Ops.u := entry_of (T := []) (c := c24) [] [] trivial eqsOk mixed Try.func24 rfl (by decide) (fun args K w h => by
  unfold platter_Disk_Ops.u at h
  split at h
  · exact ⟨Nat.le_of_ble_eq_true rfl, by rw [b24]; exact h⟩
  · exact h.elim)

noncomputable def c39 : Code := (Try.f39.body).getD .skip
theorem b39 (p1 : Option Addr) (n1 : Int) (K : VK) : body Try.prog [] eqs Try.f39.ntmps [] [(3, [(4, .string .empty), (5, .string .empty), (18, .slice none 0 0), (19, .int .i64 0), (20, .int .i64 0)])] Try.f39.results.toList c39 [.pointer p1, .int .i64 n1] K = bondstoreref04_Disk_Now p1 n1 K := by kernel_rfl
theorem e39 : Entry Try.prog 39 bondstoreref04_Disk_Now.u := entry_of (T := []) (c := c39) [] [(3, [(4, .string .empty), (5, .string .empty), (18, .slice none 0 0), (19, .int .i64 0), (20, .int .i64 0)])] trivial eqsOk mixed Try.func39 rfl (by decide) (fun args K w h => by
  unfold bondstoreref04_Disk_Now.u at h
  split at h
  · exact ⟨Nat.le_of_ble_eq_true rfl, by rw [b39]; exact h⟩
  · exact h.elim)

noncomputable def c22 : Code := (Try.f22.body).getD .skip
theorem b22 (p1 : Option Addr) (p2 : Option Addr) (K : VK) : body Try.prog [(13, platter_Disk_Read.u), (21, platter_Disk_Later.u), (23, platter_Disk_Sectors.u), (24, platter_Disk_Ops.u), (39, bondstoreref04_Disk_Now.u)] eqs Try.f22.ntmps [] [(4, [(4, .bool false), (39, .int .i64 0), (40, .int .i64 0)])] Try.f22.results.toList c22 [.pointer p1, .pointer p2] K = bondstorelaw04_same p1 p2 K := by kernel_rfl
theorem e22 : Entry Try.prog 22 bondstorelaw04_same.u := entry_of (T := [(13, platter_Disk_Read.u), (21, platter_Disk_Later.u), (23, platter_Disk_Sectors.u), (24, platter_Disk_Ops.u), (39, bondstoreref04_Disk_Now.u)]) (c := c22) [] [(4, [(4, .bool false), (39, .int .i64 0), (40, .int .i64 0)])] ⟨e13, ⟨e21, ⟨e23, ⟨e24, ⟨e39, trivial⟩⟩⟩⟩⟩ eqsOk mixed Try.func22 rfl (by decide) (fun args K w h => by
  unfold bondstorelaw04_same.u at h
  split at h
  · exact ⟨Nat.le_of_ble_eq_true rfl, by rw [b22]; exact h⟩
  · exact h.elim)

noncomputable def c7 : Code := (Try.f7.body).getD .skip
theorem b7 (n1 : Int) (sb1 : Option Addr) (sn1 : Nat) (sc1 : Nat) (K : VK) : body Try.prog [(10, bondstorelaw04_alive.u), (11, platter_New.u), (12, platter_Disk_Write.u), (13, platter_Disk_Read.u), (14, platter_Disk_Crash.u), (16, bondstorelaw04_great.u), (17, platter_Disk_Sync.u), (18, bondstoreref04_New.u), (19, bondstorelaw04_does.u), (20, platter_Disk_Arm.u), (21, platter_Disk_Later.u), (22, bondstorelaw04_same.u), (23, platter_Disk_Sectors.u), (24, platter_Disk_Ops.u)] eqs Try.f7.ntmps [] [(7, [(4, .bool false), (5, .pointer none), (6, .pointer none), (28, .slice none 0 0), (29, .int .i64 0), (30, .int .i64 0)])] Try.f7.results.toList c7 [.int .i64 n1, .slice sb1 sn1 sc1] K = bondstorelaw04_PlatterDoes n1 sb1 sn1 sc1 K := by kernel_rfl
theorem e7 : Entry Try.prog 7 bondstorelaw04_PlatterDoes.u := entry_of (T := [(10, bondstorelaw04_alive.u), (11, platter_New.u), (12, platter_Disk_Write.u), (13, platter_Disk_Read.u), (14, platter_Disk_Crash.u), (16, bondstorelaw04_great.u), (17, platter_Disk_Sync.u), (18, bondstoreref04_New.u), (19, bondstorelaw04_does.u), (20, platter_Disk_Arm.u), (21, platter_Disk_Later.u), (22, bondstorelaw04_same.u), (23, platter_Disk_Sectors.u), (24, platter_Disk_Ops.u)]) (c := c7) [] [(7, [(4, .bool false), (5, .pointer none), (6, .pointer none), (28, .slice none 0 0), (29, .int .i64 0), (30, .int .i64 0)])] ⟨e10, ⟨e11, ⟨e12, ⟨e13, ⟨e14, ⟨e16, ⟨e17, ⟨e18, ⟨e19, ⟨e20, ⟨e21, ⟨e22, ⟨e23, ⟨e24, trivial⟩⟩⟩⟩⟩⟩⟩⟩⟩⟩⟩⟩⟩⟩ eqsOk mixed Try.func7 rfl (by decide) (fun args K w h => by
  unfold bondstorelaw04_PlatterDoes.u at h
  split at h
  · exact ⟨Nat.le_of_ble_eq_true rfl, by rw [b7]; exact h⟩
  · exact h.elim)

noncomputable def c28 : Code := (Try.f28.body).getD .skip
theorem b28 (n1 : Int) (K : VK) : body Try.prog [] eqs Try.f28.ntmps [] [] Try.f28.results.toList c28 [.int .i64 n1] K = stamp_Count n1 K := by kernel_rfl
theorem e28 : Entry Try.prog 28 stamp_Count.u := entry_of (T := []) (c := c28) [] [] trivial eqsOk mixed Try.func28 rfl (by decide) (fun args K w h => by
  unfold stamp_Count.u at h
  split at h
  · exact ⟨Nat.le_of_ble_eq_true rfl, by rw [b28]; exact h⟩
  · exact h.elim)

noncomputable def c45 : Code := (Try.f45.body).getD .skip
theorem b45 (cs1 : List Value) (K : VK) : body Try.prog [] eqs Try.f45.ntmps [] [] Try.f45.results.toList c45 [.agg ⟨cs1⟩] K = stamp_good cs1 K := by kernel_rfl
theorem e45 : Entry Try.prog 45 stamp_good.u := entry_of (T := []) (c := c45) [] [] trivial eqsOk mixed Try.func45 rfl (by decide) (fun args K w h => by
  unfold stamp_good.u at h
  split at h
  · exact ⟨Nat.le_of_ble_eq_true rfl, by rw [b45]; exact h⟩
  · exact h.elim)

noncomputable def c46 : Code := (Try.f46.body).getD .skip
theorem b46 (p1 : Option Addr) (n1 : Int) (n2 : Int) (K : VK) : body Try.prog [] eqs Try.f46.ntmps [] [(1, [(9, .int .i64 0), (10, .int .i64 0)])] Try.f46.results.toList c46 [.pointer p1, .int .i64 n1, .int .i64 n2] K = tape_Writer_Int p1 n1 n2 K := by kernel_rfl
theorem e46 : Entry Try.prog 46 tape_Writer_Int.u := entry_of (T := []) (c := c46) [] [(1, [(9, .int .i64 0), (10, .int .i64 0)])] trivial eqsOk mixed Try.func46 rfl (by decide) (fun args K w h => by
  unfold tape_Writer_Int.u at h
  split at h
  · exact ⟨Nat.le_of_ble_eq_true rfl, by rw [b46]; exact h⟩
  · exact h.elim)

noncomputable def c47 : Code := (Try.f47.body).getD .skip
theorem b47 (p1 : Option Addr) (s1 : ByteArray) (K : VK) : body Try.prog [] eqs Try.f47.ntmps [] [] Try.f47.results.toList c47 [.pointer p1, .string s1] K = tape_Writer_Raw p1 s1 K := by kernel_rfl
theorem e47 : Entry Try.prog 47 tape_Writer_Raw.u := entry_of (T := []) (c := c47) [] [] trivial eqsOk mixed Try.func47 rfl (by decide) (fun args K w h => by
  unfold tape_Writer_Raw.u at h
  split at h
  · exact ⟨Nat.le_of_ble_eq_true rfl, by rw [b47]; exact h⟩
  · exact h.elim)

noncomputable def c48 : Code := (Try.f48.body).getD .skip
theorem b48 (n1 : Int) (K : VK) : body Try.prog [] eqs Try.f48.ntmps [] [] Try.f48.results.toList c48 [.int .u32 n1] K = castag_Bytes n1 K := by kernel_rfl
theorem e48 : Entry Try.prog 48 castag_Bytes.u := entry_of (T := []) (c := c48) [] [] trivial eqsOk mixed Try.func48 rfl (by decide) (fun args K w h => by
  unfold castag_Bytes.u at h
  split at h
  · exact ⟨Nat.le_of_ble_eq_true rfl, by rw [b48]; exact h⟩
  · exact h.elim)

noncomputable def c49 : Code := (Try.f49.body).getD .skip
theorem b49 (n1 : Int) (s1 : ByteArray) (K : VK) : body Try.prog [] eqs Try.f49.ntmps [] [(3, [(4, .int .u32 0), (5, .int .u32 0), (10, .int .i64 0), (11, .int .i64 0)]), (7, [(4, .int .u32 0), (5, .int .u32 0), (6, .int .i64 0), (10, .int .i64 0), (11, .int .i64 0), (12, .bool false), (13, .int .i64 0), (14, .int .u32 0), (15, .string .empty), (16, .int .i64 0), (17, .int .u8 0), (18, .int .u32 0), (19, .int .u32 0), (20, .int .i64 0)])] Try.f49.results.toList c49 [.int .u32 n1, .string s1] K = castag_Sum n1 s1 K := by kernel_rfl
theorem e49 : Entry Try.prog 49 castag_Sum.u := entry_of (T := []) (c := c49) [] [(3, [(4, .int .u32 0), (5, .int .u32 0), (10, .int .i64 0), (11, .int .i64 0)]), (7, [(4, .int .u32 0), (5, .int .u32 0), (6, .int .i64 0), (10, .int .i64 0), (11, .int .i64 0), (12, .bool false), (13, .int .i64 0), (14, .int .u32 0), (15, .string .empty), (16, .int .i64 0), (17, .int .u8 0), (18, .int .u32 0), (19, .int .u32 0), (20, .int .i64 0)])] trivial eqsOk mixed Try.func49 rfl (by decide) (fun args K w h => by
  unfold castag_Sum.u at h
  split at h
  · exact ⟨Nat.le_of_ble_eq_true rfl, by rw [b49]; exact h⟩
  · exact h.elim)

noncomputable def c50 : Code := (Try.f50.body).getD .skip
theorem b50 (p1 : Option Addr) (K : VK) : body Try.prog [] eqs Try.f50.ntmps [] [] Try.f50.results.toList c50 [.pointer p1] K = tape_Writer_String p1 K := by kernel_rfl
theorem e50 : Entry Try.prog 50 tape_Writer_String.u := entry_of (T := []) (c := c50) [] [] trivial eqsOk mixed Try.func50 rfl (by decide) (fun args K w h => by
  unfold tape_Writer_String.u at h
  split at h
  · exact ⟨Nat.le_of_ble_eq_true rfl, by rw [b50]; exact h⟩
  · exact h.elim)

noncomputable def c40 : Code := (Try.f40.body).getD .skip
theorem b40 (cs1 : List Value) (K : VK) : body Try.prog [(43, strings_Repeat.u), (45, stamp_good.u), (46, tape_Writer_Int.u), (47, tape_Writer_Raw.u), (48, castag_Bytes.u), (49, castag_Sum.u), (50, tape_Writer_String.u)] eqs Try.f40.ntmps [] [] Try.f40.results.toList c40 [.agg ⟨cs1⟩] K = stamp_Bytes cs1 K := by kernel_rfl
theorem e40 : Entry Try.prog 40 stamp_Bytes.u := entry_of (T := [(43, strings_Repeat.u), (45, stamp_good.u), (46, tape_Writer_Int.u), (47, tape_Writer_Raw.u), (48, castag_Bytes.u), (49, castag_Sum.u), (50, tape_Writer_String.u)]) (c := c40) [] [] ⟨e43, ⟨e45, ⟨e46, ⟨e47, ⟨e48, ⟨e49, ⟨e50, trivial⟩⟩⟩⟩⟩⟩⟩ eqsOk mixed Try.func40 rfl (by decide) (fun args K w h => by
  unfold stamp_Bytes.u at h
  split at h
  · exact ⟨Nat.le_of_ble_eq_true rfl, by rw [b40]; exact h⟩
  · exact h.elim)

noncomputable def c25 : Code := (Try.f25.body).getD .skip
theorem b25  (K : VK) : body Try.prog [(28, stamp_Count.u), (40, stamp_Bytes.u)] eqs Try.f25.ntmps [] [] Try.f25.results.toList c25 [] K = bondstorelaw05_alive  K := by kernel_rfl
theorem e25 : Entry Try.prog 25 bondstorelaw05_alive.u := entry_of (T := [(28, stamp_Count.u), (40, stamp_Bytes.u)]) (c := c25) [] [] ⟨e28, ⟨e40, trivial⟩⟩ eqsOk mixed Try.func25 rfl (by decide) (fun args K w h => by
  unfold bondstorelaw05_alive.u at h
  split at h
  · exact ⟨Nat.le_of_ble_eq_true rfl, by rw [b25]; exact h⟩
  · exact h.elim)

noncomputable def c26 : Code := (Try.f26.body).getD .skip
theorem b26 (sb1 : Option Addr) (sn1 : Nat) (sc1 : Nat) (K : VK) : body Try.prog [(11, platter_New.u), (12, platter_Disk_Write.u), (17, platter_Disk_Sync.u)] eqs Try.f26.ntmps [] [(3, [(2, .pointer none), (3, .pointer none), (7, .slice none 0 0), (8, .int .i64 0), (9, .int .i64 0)])] Try.f26.results.toList c26 [.slice sb1 sn1 sc1] K = bondstorelaw05_disk sb1 sn1 sc1 K := by kernel_rfl
theorem e26 : Entry Try.prog 26 bondstorelaw05_disk.u := entry_of (T := [(11, platter_New.u), (12, platter_Disk_Write.u), (17, platter_Disk_Sync.u)]) (c := c26) [] [(3, [(2, .pointer none), (3, .pointer none), (7, .slice none 0 0), (8, .int .i64 0), (9, .int .i64 0)])] ⟨e11, ⟨e12, ⟨e17, trivial⟩⟩⟩ eqsOk mixed Try.func26 rfl (by decide) (fun args K w h => by
  unfold bondstorelaw05_disk.u at h
  split at h
  · exact ⟨Nat.le_of_ble_eq_true rfl, by rw [b26]; exact h⟩
  · exact h.elim)

noncomputable def c27 : Code := (Try.f27.body).getD .skip
theorem b27 (p1 : Option Addr) (n1 : Int) (n2 : Int) (n3 : Int) (s1 : ByteArray) (K : VK) : body Try.prog [(12, platter_Disk_Write.u), (23, platter_Disk_Sectors.u), (28, stamp_Count.u), (40, stamp_Bytes.u)] eqs Try.f27.ntmps [4] [(6, [(4, .string .empty), (10, .int .i64 0), (11, .int .i64 0)])] Try.f27.results.toList c27 [.pointer p1, .int .i64 n1, .int .i64 n2, .int .i64 n3, .string s1] K = stamp_Lay p1 n1 n2 n3 s1 K := by kernel_rfl
theorem e27 : Entry Try.prog 27 stamp_Lay.u := entry_of (T := [(12, platter_Disk_Write.u), (23, platter_Disk_Sectors.u), (28, stamp_Count.u), (40, stamp_Bytes.u)]) (c := c27) [4] [(6, [(4, .string .empty), (10, .int .i64 0), (11, .int .i64 0)])] ⟨e12, ⟨e23, ⟨e28, ⟨e40, trivial⟩⟩⟩⟩ eqsOk mixed Try.func27 rfl (by decide) (fun args K w h => by
  unfold stamp_Lay.u at h
  split at h
  · exact ⟨Nat.le_of_ble_eq_true rfl, by rw [b27]; exact h⟩
  · exact h.elim)

noncomputable def c29 : Code := (Try.f29.body).getD .skip
theorem b29 (n1 : Int) (K : VK) : body Try.prog [] eqs Try.f29.ntmps [] [(2, [(2, .int .i64 0), (3, .int .i64 0)])] Try.f29.results.toList c29 [.int .i64 n1] K = bondstoreref05_Count n1 K := by kernel_rfl
theorem e29 : Entry Try.prog 29 bondstoreref05_Count.u := entry_of (T := []) (c := c29) [] [(2, [(2, .int .i64 0), (3, .int .i64 0)])] trivial eqsOk mixed Try.func29 rfl (by decide) (fun args K w h => by
  unfold bondstoreref05_Count.u at h
  split at h
  · exact ⟨Nat.le_of_ble_eq_true rfl, by rw [b29]; exact h⟩
  · exact h.elim)

noncomputable def c8 : Code := (Try.f8.body).getD .skip
theorem b8 (sb1 : Option Addr) (sn1 : Nat) (sc1 : Nat) (n1 : Int) (s1 : ByteArray) (K : VK) : body Try.prog [(13, platter_Disk_Read.u), (21, platter_Disk_Later.u), (25, bondstorelaw05_alive.u), (26, bondstorelaw05_disk.u), (27, stamp_Lay.u), (28, stamp_Count.u), (29, bondstoreref05_Count.u)] eqs Try.f8.ntmps [] [(8, [(6, .bool false), (7, .pointer none), (8, .slice none 0 0), (9, .int .i64 0)]), (16, [(6, .bool false), (7, .pointer none), (8, .slice none 0 0), (12, .int .i64 0), (57, .int .i64 0), (58, .int .i64 0)])] Try.f8.results.toList c8 [.slice sb1 sn1 sc1, .int .i64 n1, .string s1] K = bondstorelaw05_StampRoom sb1 sn1 sc1 n1 s1 K := by kernel_rfl
theorem e8 : Entry Try.prog 8 bondstorelaw05_StampRoom.u := entry_of (T := [(13, platter_Disk_Read.u), (21, platter_Disk_Later.u), (25, bondstorelaw05_alive.u), (26, bondstorelaw05_disk.u), (27, stamp_Lay.u), (28, stamp_Count.u), (29, bondstoreref05_Count.u)]) (c := c8) [] [(8, [(6, .bool false), (7, .pointer none), (8, .slice none 0 0), (9, .int .i64 0)]), (16, [(6, .bool false), (7, .pointer none), (8, .slice none 0 0), (12, .int .i64 0), (57, .int .i64 0), (58, .int .i64 0)])] ⟨e13, ⟨e21, ⟨e25, ⟨e26, ⟨e27, ⟨e28, ⟨e29, trivial⟩⟩⟩⟩⟩⟩⟩ eqsOk mixed Try.func8 rfl (by decide) (fun args K w h => by
  unfold bondstorelaw05_StampRoom.u at h
  split at h
  · exact ⟨Nat.le_of_ble_eq_true rfl, by rw [b8]; exact h⟩
  · exact h.elim)

noncomputable def c41 : Code := (Try.f41.body).getD .skip
theorem b41 (s1 : ByteArray) (K : VK) : body Try.prog [] eqs Try.f41.ntmps [] [(3, [(2, .int .i64 0), (3, .int .u64 0), (4, .int .i64 0)])] Try.f41.results.toList c41 [.string s1] K = bondstoreref03_Back s1 K := by kernel_rfl
theorem e41 : Entry Try.prog 41 bondstoreref03_Back.u := entry_of (T := []) (c := c41) [] [(3, [(2, .int .i64 0), (3, .int .u64 0), (4, .int .i64 0)])] trivial eqsOk mixed Try.func41 rfl (by decide) (fun args K w h => by
  unfold bondstoreref03_Back.u at h
  split at h
  · exact ⟨Nat.le_of_ble_eq_true rfl, by rw [b41]; exact h⟩
  · exact h.elim)

noncomputable def c30 : Code := (Try.f30.body).getD .skip
theorem b30 (s1 : ByteArray) (K : VK) : body Try.prog [(41, bondstoreref03_Back.u)] eqs Try.f30.ntmps [] [] Try.f30.results.toList c30 [.string s1] K = bondstoreref05_Number s1 K := by kernel_rfl
theorem e30 : Entry Try.prog 30 bondstoreref05_Number.u := entry_of (T := [(41, bondstoreref03_Back.u)]) (c := c30) [] [] ⟨e41, trivial⟩ eqsOk mixed Try.func30 rfl (by decide) (fun args K w h => by
  unfold bondstoreref05_Number.u at h
  split at h
  · exact ⟨Nat.le_of_ble_eq_true rfl, by rw [b30]; exact h⟩
  · exact h.elim)

noncomputable def c51 : Code := (Try.f51.body).getD .skip
theorem b51 (s1 : ByteArray) (K : VK) : body Try.prog [] eqs Try.f51.ntmps [] [] Try.f51.results.toList c51 [.string s1] K = tape_Read s1 K := by kernel_rfl
theorem e51 : Entry Try.prog 51 tape_Read.u := entry_of (T := []) (c := c51) [] [] trivial eqsOk mixed Try.func51 rfl (by decide) (fun args K w h => by
  unfold tape_Read.u at h
  split at h
  · exact ⟨Nat.le_of_ble_eq_true rfl, by rw [b51]; exact h⟩
  · exact h.elim)

noncomputable def c59 : Code := (Try.f59.body).getD .skip
theorem b59 (p1 : Option Addr) (n1 : Int) (K : VK) : body Try.prog [] eqs Try.f59.ntmps [] [] Try.f59.results.toList c59 [.pointer p1, .int .i64 n1] K = tape_Reader_Raw p1 n1 K := by kernel_rfl
theorem e59 : Entry Try.prog 59 tape_Reader_Raw.u := entry_of (T := []) (c := c59) [] [] trivial eqsOk mixed Try.func59 rfl (by decide) (fun args K w h => by
  unfold tape_Reader_Raw.u at h
  split at h
  · exact ⟨Nat.le_of_ble_eq_true rfl, by rw [b59]; exact h⟩
  · exact h.elim)

noncomputable def c52 : Code := (Try.f52.body).getD .skip
theorem b52 (p1 : Option Addr) (n1 : Int) (K : VK) : body Try.prog [(59, tape_Reader_Raw.u)] eqs Try.f52.ntmps [] [(3, [(4, .int .i64 0), (5, .int .i64 0), (13, .slice none 0 0), (14, .int .i64 0), (15, .int .i64 0)])] Try.f52.results.toList c52 [.pointer p1, .int .i64 n1] K = tape_Reader_Int p1 n1 K := by kernel_rfl
theorem e52 : Entry Try.prog 52 tape_Reader_Int.u := entry_of (T := [(59, tape_Reader_Raw.u)]) (c := c52) [] [(3, [(4, .int .i64 0), (5, .int .i64 0), (13, .slice none 0 0), (14, .int .i64 0), (15, .int .i64 0)])] ⟨e59, trivial⟩ eqsOk mixed Try.func52 rfl (by decide) (fun args K w h => by
  unfold tape_Reader_Int.u at h
  split at h
  · exact ⟨Nat.le_of_ble_eq_true rfl, by rw [b52]; exact h⟩
  · exact h.elim)

noncomputable def c42 : Code := (Try.f42.body).getD .skip
theorem b42 (s1 : ByteArray) (K : VK) : body Try.prog [(51, tape_Read.u), (52, tape_Reader_Int.u)] eqs Try.f42.ntmps [] [(3, [(2, .pointer (some ⟨0, 0, none⟩)), (3, .pointer (some ⟨0, 0, none⟩)), (14, .agg #[]), (15, .int .i64 0)])] Try.f42.results.toList c42 [.string s1] K = stamp_ends s1 K := by kernel_rfl
theorem e42 : Entry Try.prog 42 stamp_ends.u := entry_of (T := [(51, tape_Read.u), (52, tape_Reader_Int.u)]) (c := c42) [] [(3, [(2, .pointer (some ⟨0, 0, none⟩)), (3, .pointer (some ⟨0, 0, none⟩)), (14, .agg #[]), (15, .int .i64 0)])] ⟨e51, ⟨e52, trivial⟩⟩ eqsOk mixed Try.func42 rfl (by decide) (fun args K w h => by
  unfold stamp_ends.u at h
  split at h
  · exact ⟨Nat.le_of_ble_eq_true rfl, by rw [b42]; exact h⟩
  · exact h.elim)

noncomputable def c31 : Code := (Try.f31.body).getD .skip
theorem b31 (p1 : Option Addr) (K : VK) : body Try.prog [(13, platter_Disk_Read.u), (23, platter_Disk_Sectors.u), (42, stamp_ends.u)] eqs Try.f31.ntmps [] [(3, [(2, .int .i64 0), (3, .int .i64 0), (9, .int .i64 0), (10, .int .i64 0)])] Try.f31.results.toList c31 [.pointer p1] K = stamp_Greatest p1 K := by kernel_rfl
theorem e31 : Entry Try.prog 31 stamp_Greatest.u := entry_of (T := [(13, platter_Disk_Read.u), (23, platter_Disk_Sectors.u), (42, stamp_ends.u)]) (c := c31) [] [(3, [(2, .int .i64 0), (3, .int .i64 0), (9, .int .i64 0), (10, .int .i64 0)])] ⟨e13, ⟨e23, ⟨e42, trivial⟩⟩⟩ eqsOk mixed Try.func31 rfl (by decide) (fun args K w h => by
  unfold stamp_Greatest.u at h
  split at h
  · exact ⟨Nat.le_of_ble_eq_true rfl, by rw [b31]; exact h⟩
  · exact h.elim)

noncomputable def c9 : Code := (Try.f9.body).getD .skip
theorem b9 (sb1 : Option Addr) (sn1 : Nat) (sc1 : Nat) (K : VK) : body Try.prog [(11, platter_New.u), (13, platter_Disk_Read.u), (25, bondstorelaw05_alive.u), (26, bondstorelaw05_disk.u), (30, bondstoreref05_Number.u), (31, stamp_Greatest.u)] eqs Try.f9.ntmps [] [(6, [(2, .bool false), (3, .pointer none), (4, .int .i64 0), (5, .int .i64 0)])] Try.f9.results.toList c9 [.slice sb1 sn1 sc1] K = bondstorelaw05_StampGreatest sb1 sn1 sc1 K := by kernel_rfl
theorem e9 : Entry Try.prog 9 bondstorelaw05_StampGreatest.u := entry_of (T := [(11, platter_New.u), (13, platter_Disk_Read.u), (25, bondstorelaw05_alive.u), (26, bondstorelaw05_disk.u), (30, bondstoreref05_Number.u), (31, stamp_Greatest.u)]) (c := c9) [] [(6, [(2, .bool false), (3, .pointer none), (4, .int .i64 0), (5, .int .i64 0)])] ⟨e11, ⟨e13, ⟨e25, ⟨e26, ⟨e30, ⟨e31, trivial⟩⟩⟩⟩⟩⟩ eqsOk mixed Try.func9 rfl (by decide) (fun args K w h => by
  unfold bondstorelaw05_StampGreatest.u at h
  split at h
  · exact ⟨Nat.le_of_ble_eq_true rfl, by rw [b9]; exact h⟩
  · exact h.elim)

end Go.Proofs.Ytidhimamegfdaaa
